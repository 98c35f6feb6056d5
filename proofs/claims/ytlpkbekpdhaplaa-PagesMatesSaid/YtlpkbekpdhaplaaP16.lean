-- Printed by wip/tools/pp.py.
import Derived.Test.YtlpkbekpdhaplaaP0
import Derived.Test.YtlpkbekpdhaplaaP5
import Derived.Test.YtlpkbekpdhaplaaP8
import Derived.Test.YtlpkbekpdhaplaaE1
import Derived.Test.YtlpkbekpdhaplaaEm
import Derived.Test.YtlpkbekpdhaplaaEp
namespace Go.Proofs.Ytlpkbekpdhaplaa.P
open Go.RowKit Go.Proofs.YtlpkbekpdhaplaaW.PrintWords Go.Proofs.YtlpkbekpdhaplaaW.PrintLast Go.Proofs.YtlpkbekpdhaplaaW.PrintMore
attribute [local go_sem] max2_int min2_int max_two min_two max_three min_three max_four min_four   -- for this text's walks alone
set_option linter.unusedVariables false
set_option linter.unusedSimpArgs false

/-! ### joistlaw13_PagesMates: function 12 -/
mutual
def joistlaw13_PagesMates.j0 : Nat → Int → List (S44) → Bool → List Int → Bool → Option (Bool)
  | 0, _, _, _, _, _ => none
  | k + 1, x0, x1, x5, x6, x31 => if x31 = true then (some x5) else (joistlaw13_PagesMates.l0 k x0 x1 x5 x6 0 0)
def joistlaw13_PagesMates.l0 : Nat → Int → List (S44) → Bool → List Int → Int → Int → Option (Bool)
  | 0, _, _, _, _, _, _ => none
  | k + 1, x0, x1, x5, x6, x8, x9 => if x9 < x0 then (joistlaw13_PagesMates.j2 k x0 x1 x5 x6 x8 x9 (decide (x9 < (x6.length : Int)))) else (joistlaw13_PagesMates.j2 k x0 x1 x5 x6 x8 x9 false)
def joistlaw13_PagesMates.j2 : Nat → Int → List (S44) → Bool → List Int → Int → Int → Bool → Option (Bool)
  | 0, _, _, _, _, _, _, _ => none
  | k + 1, x0, x1, x5, x6, x8, x9, x41 => if x41 = true then ((pages_Mates.f x0 x1 x9).bind fun t334 => (if 0 ≤ x9 then (if x9 < (x6.length : Int) then (if (((t334.length : Int) == 0) != ((rd x6 x9) == (-1))) = true then (joistlaw13_PagesMates.j3 k x0 x1 x5 x6 (wrap64 (x8 + (t334.length : Int))) x9 t334 true) else (if (rd x6 x9) ≥ 6 then (joistlaw13_PagesMates.j3 k x0 x1 x5 x6 (wrap64 (x8 + (t334.length : Int))) x9 t334 ((t334.length : Int) != 1)) else (joistlaw13_PagesMates.j3 k x0 x1 x5 x6 (wrap64 (x8 + (t334.length : Int))) x9 t334 false))) else (none)) else (none))) else (joistlaw13_PagesMates.l2 k x0 x1 x5 x8 0 0)
def joistlaw13_PagesMates.j3 : Nat → Int → List (S44) → Bool → List Int → Int → Int → List Int → Bool → Option (Bool)
  | 0, _, _, _, _, _, _, _, _ => none
  | k + 1, x0, x1, x5, x6, x8, x9, x10, x72 => if x72 = true then (some false) else (joistlaw13_PagesMates.l1 k x0 x1 x5 x6 x8 x9 x10 0)
def joistlaw13_PagesMates.l1 : Nat → Int → List (S44) → Bool → List Int → Int → Int → List Int → Int → Option (Bool)
  | 0, _, _, _, _, _, _, _, _ => none
  | k + 1, x0, x1, x5, x6, x8, x9, x10, x11 => if x11 < (x10.length : Int) then (if 0 ≤ x11 then (if (rd x10 x11) < 0 then (joistlaw13_PagesMates.j5 k x0 x1 x5 x6 x8 x9 x10 x11 true) else (if (rd x10 x11) ≥ (x1.length : Int) then (joistlaw13_PagesMates.j5 k x0 x1 x5 x6 x8 x9 x10 x11 true) else (if x11 > 0 then (if 0 ≤ (wrap64 (x11 - 1)) then (if (wrap64 (x11 - 1)) < (x10.length : Int) then (joistlaw13_PagesMates.j5 k x0 x1 x5 x6 x8 x9 x10 x11 (decide ((rd x10 x11) ≤ (rd x10 (wrap64 (x11 - 1)))))) else (none)) else (none)) else (joistlaw13_PagesMates.j5 k x0 x1 x5 x6 x8 x9 x10 x11 false)))) else (none)) else (joistlaw13_PagesMates.l0 k x0 x1 x5 x6 x8 (wrap64 (x9 + 1)))
def joistlaw13_PagesMates.j5 : Nat → Int → List (S44) → Bool → List Int → Int → Int → List Int → Int → Bool → Option (Bool)
  | 0, _, _, _, _, _, _, _, _, _ => none
  | k + 1, x0, x1, x5, x6, x8, x9, x10, x11, x108 => if x108 = true then (some false) else (if 0 ≤ x11 then (if x11 < (x10.length : Int) then (if 0 ≤ (rd x10 x11) then (if (rd x10 x11) < (x1.length : Int) then ((class_Of.f ((rd_T44 x1 (rd x10 x11)).f1)).bind fun bt345 => (if 0 ≤ x9 then (if x9 < (x6.length : Int) then (if (bt345.2 != (decide ((rd x6 x9) < 6))) = true then (some false) else (if bt345.2 = true then (if bt345.1 = (rd x6 x9) then (joistlaw13_PagesMates.l1 k x0 x1 x5 x6 x8 x9 x10 (wrap64 (x11 + 1))) else (some false)) else (joistlaw13_PagesMates.l1 k x0 x1 x5 x6 x8 x9 x10 (wrap64 (x11 + 1))))) else (none)) else (none))) else (none)) else (none)) else (none)) else (none))
def joistlaw13_PagesMates.l2 : Nat → Int → List (S44) → Bool → Int → Int → Int → Option (Bool)
  | 0, _, _, _, _, _, _ => none
  | k + 1, x0, x1, x5, x8, x14, x15 => if x15 < (x1.length : Int) then (if 0 ≤ x15 then ((class_Pages.f ((rd_T44 x1 x15).f1)).bind fun bt350 => (if bt350.2 = 0 then (joistlaw13_PagesMates.l2 k x0 x1 x5 x8 (wrap64 (x14 + bt350.1)) (wrap64 (x15 + 1))) else (joistlaw13_PagesMates.l2 k x0 x1 x5 x8 (wrap64 (x14 + 1)) (wrap64 (x15 + 1))))) else (none)) else (if x5 = true then (if x8 = x14 then ((pages_Mates.f x0 x1 (-1)).bind fun t352 => ((pages_Mates.f x0 x1 x0).bind fun t355 => (some ((wrap64 ((t352.length : Int) + (t355.length : Int))) == 0)))) else (some false)) else (some false))
end
def joistlaw13_PagesMates.f (k : Nat) (a0 : Int) (l1 : List (S44)) : Option (Bool) := (joistlaw13_small.f k).bind fun t329 => ((pages_Kinds.f a0 l1).bind fun bt330 => (if (l1.length : Int) > 200 then (joistlaw13_PagesMates.j0 k a0 l1 t329 bt330.1 true) else (joistlaw13_PagesMates.j0 k a0 l1 t329 bt330.1 (!bt330.2))))
theorem joistlaw13_PagesMates.mono_l : ∀ k, (∀ y0 y1 y2 y3 y4, LeO (joistlaw13_PagesMates.j0 k y0 y1 y2 y3 y4) (joistlaw13_PagesMates.j0 (k + 1) y0 y1 y2 y3 y4)) ∧ (∀ y0 y1 y2 y3 y4 y5, LeO (joistlaw13_PagesMates.l0 k y0 y1 y2 y3 y4 y5) (joistlaw13_PagesMates.l0 (k + 1) y0 y1 y2 y3 y4 y5)) ∧ (∀ y0 y1 y2 y3 y4 y5 y6, LeO (joistlaw13_PagesMates.j2 k y0 y1 y2 y3 y4 y5 y6) (joistlaw13_PagesMates.j2 (k + 1) y0 y1 y2 y3 y4 y5 y6)) ∧ (∀ y0 y1 y2 y3 y4 y5 y6 y7, LeO (joistlaw13_PagesMates.j3 k y0 y1 y2 y3 y4 y5 y6 y7) (joistlaw13_PagesMates.j3 (k + 1) y0 y1 y2 y3 y4 y5 y6 y7)) ∧ (∀ y0 y1 y2 y3 y4 y5 y6 y7, LeO (joistlaw13_PagesMates.l1 k y0 y1 y2 y3 y4 y5 y6 y7) (joistlaw13_PagesMates.l1 (k + 1) y0 y1 y2 y3 y4 y5 y6 y7)) ∧ (∀ y0 y1 y2 y3 y4 y5 y6 y7 y8, LeO (joistlaw13_PagesMates.j5 k y0 y1 y2 y3 y4 y5 y6 y7 y8) (joistlaw13_PagesMates.j5 (k + 1) y0 y1 y2 y3 y4 y5 y6 y7 y8)) ∧ (∀ y0 y1 y2 y3 y4 y5, LeO (joistlaw13_PagesMates.l2 k y0 y1 y2 y3 y4 y5) (joistlaw13_PagesMates.l2 (k + 1) y0 y1 y2 y3 y4 y5))
  | 0 => ⟨fun _ _ _ _ _ r h => by simp [joistlaw13_PagesMates.j0] at h, fun _ _ _ _ _ _ r h => by simp [joistlaw13_PagesMates.l0] at h, fun _ _ _ _ _ _ _ r h => by simp [joistlaw13_PagesMates.j2] at h, fun _ _ _ _ _ _ _ _ r h => by simp [joistlaw13_PagesMates.j3] at h, fun _ _ _ _ _ _ _ _ r h => by simp [joistlaw13_PagesMates.l1] at h, fun _ _ _ _ _ _ _ _ _ r h => by simp [joistlaw13_PagesMates.j5] at h, fun _ _ _ _ _ _ r h => by simp [joistlaw13_PagesMates.l2] at h⟩
  | k + 1 => by
    obtain ⟨ih0, ih1, ih2, ih3, ih4, ih5, ih6⟩ := joistlaw13_PagesMates.mono_l k
    refine ⟨?_, ?_, ?_, ?_, ?_, ?_, ?_⟩
    · intro y0 y1 y2 y3 y4
      unfold joistlaw13_PagesMates.j0
      repeat' first
      | (with_reducible exact ih0 _ _ _ _ _)
      | (with_reducible exact ih1 _ _ _ _ _ _)
      | (with_reducible exact ih2 _ _ _ _ _ _ _)
      | (with_reducible exact ih3 _ _ _ _ _ _ _ _)
      | (with_reducible exact ih4 _ _ _ _ _ _ _ _)
      | (with_reducible exact ih5 _ _ _ _ _ _ _ _ _)
      | (with_reducible exact ih6 _ _ _ _ _ _)
      | (with_reducible exact joistlaw13_small.mono _)
      | (with_reducible exact LeO.refl _)
      | (with_reducible exact LeO.none _)
      | (with_reducible refine LeO.ite ?_ ?_)
      | (with_reducible refine LeO.bind ?_ (fun _ => ?_))
      | exact ih0 _ _ _ _ _
      | exact ih1 _ _ _ _ _ _
      | exact ih2 _ _ _ _ _ _ _
      | exact ih3 _ _ _ _ _ _ _ _
      | exact ih4 _ _ _ _ _ _ _ _
      | exact ih5 _ _ _ _ _ _ _ _ _
      | exact ih6 _ _ _ _ _ _
      | exact joistlaw13_small.mono _
      | exact LeO.none _
      | refine LeO.ite ?_ ?_
      | refine LeO.bind ?_ (fun _ => ?_)
    · intro y0 y1 y2 y3 y4 y5
      unfold joistlaw13_PagesMates.l0
      repeat' first
      | (with_reducible exact ih0 _ _ _ _ _)
      | (with_reducible exact ih1 _ _ _ _ _ _)
      | (with_reducible exact ih2 _ _ _ _ _ _ _)
      | (with_reducible exact ih3 _ _ _ _ _ _ _ _)
      | (with_reducible exact ih4 _ _ _ _ _ _ _ _)
      | (with_reducible exact ih5 _ _ _ _ _ _ _ _ _)
      | (with_reducible exact ih6 _ _ _ _ _ _)
      | (with_reducible exact joistlaw13_small.mono _)
      | (with_reducible exact LeO.refl _)
      | (with_reducible exact LeO.none _)
      | (with_reducible refine LeO.ite ?_ ?_)
      | (with_reducible refine LeO.bind ?_ (fun _ => ?_))
      | exact ih0 _ _ _ _ _
      | exact ih1 _ _ _ _ _ _
      | exact ih2 _ _ _ _ _ _ _
      | exact ih3 _ _ _ _ _ _ _ _
      | exact ih4 _ _ _ _ _ _ _ _
      | exact ih5 _ _ _ _ _ _ _ _ _
      | exact ih6 _ _ _ _ _ _
      | exact joistlaw13_small.mono _
      | exact LeO.none _
      | refine LeO.ite ?_ ?_
      | refine LeO.bind ?_ (fun _ => ?_)
    · intro y0 y1 y2 y3 y4 y5 y6
      unfold joistlaw13_PagesMates.j2
      repeat' first
      | (with_reducible exact ih0 _ _ _ _ _)
      | (with_reducible exact ih1 _ _ _ _ _ _)
      | (with_reducible exact ih2 _ _ _ _ _ _ _)
      | (with_reducible exact ih3 _ _ _ _ _ _ _ _)
      | (with_reducible exact ih4 _ _ _ _ _ _ _ _)
      | (with_reducible exact ih5 _ _ _ _ _ _ _ _ _)
      | (with_reducible exact ih6 _ _ _ _ _ _)
      | (with_reducible exact joistlaw13_small.mono _)
      | (with_reducible exact LeO.refl _)
      | (with_reducible exact LeO.none _)
      | (with_reducible refine LeO.ite ?_ ?_)
      | (with_reducible refine LeO.bind ?_ (fun _ => ?_))
      | exact ih0 _ _ _ _ _
      | exact ih1 _ _ _ _ _ _
      | exact ih2 _ _ _ _ _ _ _
      | exact ih3 _ _ _ _ _ _ _ _
      | exact ih4 _ _ _ _ _ _ _ _
      | exact ih5 _ _ _ _ _ _ _ _ _
      | exact ih6 _ _ _ _ _ _
      | exact joistlaw13_small.mono _
      | exact LeO.none _
      | refine LeO.ite ?_ ?_
      | refine LeO.bind ?_ (fun _ => ?_)
    · intro y0 y1 y2 y3 y4 y5 y6 y7
      unfold joistlaw13_PagesMates.j3
      repeat' first
      | (with_reducible exact ih0 _ _ _ _ _)
      | (with_reducible exact ih1 _ _ _ _ _ _)
      | (with_reducible exact ih2 _ _ _ _ _ _ _)
      | (with_reducible exact ih3 _ _ _ _ _ _ _ _)
      | (with_reducible exact ih4 _ _ _ _ _ _ _ _)
      | (with_reducible exact ih5 _ _ _ _ _ _ _ _ _)
      | (with_reducible exact ih6 _ _ _ _ _ _)
      | (with_reducible exact joistlaw13_small.mono _)
      | (with_reducible exact LeO.refl _)
      | (with_reducible exact LeO.none _)
      | (with_reducible refine LeO.ite ?_ ?_)
      | (with_reducible refine LeO.bind ?_ (fun _ => ?_))
      | exact ih0 _ _ _ _ _
      | exact ih1 _ _ _ _ _ _
      | exact ih2 _ _ _ _ _ _ _
      | exact ih3 _ _ _ _ _ _ _ _
      | exact ih4 _ _ _ _ _ _ _ _
      | exact ih5 _ _ _ _ _ _ _ _ _
      | exact ih6 _ _ _ _ _ _
      | exact joistlaw13_small.mono _
      | exact LeO.none _
      | refine LeO.ite ?_ ?_
      | refine LeO.bind ?_ (fun _ => ?_)
    · intro y0 y1 y2 y3 y4 y5 y6 y7
      unfold joistlaw13_PagesMates.l1
      repeat' first
      | (with_reducible exact ih0 _ _ _ _ _)
      | (with_reducible exact ih1 _ _ _ _ _ _)
      | (with_reducible exact ih2 _ _ _ _ _ _ _)
      | (with_reducible exact ih3 _ _ _ _ _ _ _ _)
      | (with_reducible exact ih4 _ _ _ _ _ _ _ _)
      | (with_reducible exact ih5 _ _ _ _ _ _ _ _ _)
      | (with_reducible exact ih6 _ _ _ _ _ _)
      | (with_reducible exact joistlaw13_small.mono _)
      | (with_reducible exact LeO.refl _)
      | (with_reducible exact LeO.none _)
      | (with_reducible refine LeO.ite ?_ ?_)
      | (with_reducible refine LeO.bind ?_ (fun _ => ?_))
      | exact ih0 _ _ _ _ _
      | exact ih1 _ _ _ _ _ _
      | exact ih2 _ _ _ _ _ _ _
      | exact ih3 _ _ _ _ _ _ _ _
      | exact ih4 _ _ _ _ _ _ _ _
      | exact ih5 _ _ _ _ _ _ _ _ _
      | exact ih6 _ _ _ _ _ _
      | exact joistlaw13_small.mono _
      | exact LeO.none _
      | refine LeO.ite ?_ ?_
      | refine LeO.bind ?_ (fun _ => ?_)
    · intro y0 y1 y2 y3 y4 y5 y6 y7 y8
      unfold joistlaw13_PagesMates.j5
      repeat' first
      | (with_reducible exact ih0 _ _ _ _ _)
      | (with_reducible exact ih1 _ _ _ _ _ _)
      | (with_reducible exact ih2 _ _ _ _ _ _ _)
      | (with_reducible exact ih3 _ _ _ _ _ _ _ _)
      | (with_reducible exact ih4 _ _ _ _ _ _ _ _)
      | (with_reducible exact ih5 _ _ _ _ _ _ _ _ _)
      | (with_reducible exact ih6 _ _ _ _ _ _)
      | (with_reducible exact joistlaw13_small.mono _)
      | (with_reducible exact LeO.refl _)
      | (with_reducible exact LeO.none _)
      | (with_reducible refine LeO.ite ?_ ?_)
      | (with_reducible refine LeO.bind ?_ (fun _ => ?_))
      | exact ih0 _ _ _ _ _
      | exact ih1 _ _ _ _ _ _
      | exact ih2 _ _ _ _ _ _ _
      | exact ih3 _ _ _ _ _ _ _ _
      | exact ih4 _ _ _ _ _ _ _ _
      | exact ih5 _ _ _ _ _ _ _ _ _
      | exact ih6 _ _ _ _ _ _
      | exact joistlaw13_small.mono _
      | exact LeO.none _
      | refine LeO.ite ?_ ?_
      | refine LeO.bind ?_ (fun _ => ?_)
    · intro y0 y1 y2 y3 y4 y5
      unfold joistlaw13_PagesMates.l2
      repeat' first
      | (with_reducible exact ih0 _ _ _ _ _)
      | (with_reducible exact ih1 _ _ _ _ _ _)
      | (with_reducible exact ih2 _ _ _ _ _ _ _)
      | (with_reducible exact ih3 _ _ _ _ _ _ _ _)
      | (with_reducible exact ih4 _ _ _ _ _ _ _ _)
      | (with_reducible exact ih5 _ _ _ _ _ _ _ _ _)
      | (with_reducible exact ih6 _ _ _ _ _ _)
      | (with_reducible exact joistlaw13_small.mono _)
      | (with_reducible exact LeO.refl _)
      | (with_reducible exact LeO.none _)
      | (with_reducible refine LeO.ite ?_ ?_)
      | (with_reducible refine LeO.bind ?_ (fun _ => ?_))
      | exact ih0 _ _ _ _ _
      | exact ih1 _ _ _ _ _ _
      | exact ih2 _ _ _ _ _ _ _
      | exact ih3 _ _ _ _ _ _ _ _
      | exact ih4 _ _ _ _ _ _ _ _
      | exact ih5 _ _ _ _ _ _ _ _ _
      | exact ih6 _ _ _ _ _ _
      | exact joistlaw13_small.mono _
      | exact LeO.none _
      | refine LeO.ite ?_ ?_
      | refine LeO.bind ?_ (fun _ => ?_)
theorem joistlaw13_PagesMates.mono : ∀ a0 a1 k, LeO (joistlaw13_PagesMates.f k a0 a1) (joistlaw13_PagesMates.f (k + 1) a0 a1) := by
  intro a0 a1 k
  obtain ⟨ih0, ih1, ih2, ih3, ih4, ih5, ih6⟩ := joistlaw13_PagesMates.mono_l k
  unfold joistlaw13_PagesMates.f
  repeat' first
      | (with_reducible exact ih0 _ _ _ _ _)
      | (with_reducible exact ih1 _ _ _ _ _ _)
      | (with_reducible exact ih2 _ _ _ _ _ _ _)
      | (with_reducible exact ih3 _ _ _ _ _ _ _ _)
      | (with_reducible exact ih4 _ _ _ _ _ _ _ _)
      | (with_reducible exact ih5 _ _ _ _ _ _ _ _ _)
      | (with_reducible exact ih6 _ _ _ _ _ _)
      | (with_reducible exact joistlaw13_small.mono _)
      | (with_reducible exact LeO.refl _)
      | (with_reducible exact LeO.none _)
      | (with_reducible refine LeO.ite ?_ ?_)
      | (with_reducible refine LeO.bind ?_ (fun _ => ?_))
      | exact ih0 _ _ _ _ _
      | exact ih1 _ _ _ _ _ _
      | exact ih2 _ _ _ _ _ _ _
      | exact ih3 _ _ _ _ _ _ _ _
      | exact ih4 _ _ _ _ _ _ _ _
      | exact ih5 _ _ _ _ _ _ _ _ _
      | exact ih6 _ _ _ _ _ _
      | exact joistlaw13_small.mono _
      | exact LeO.none _
      | refine LeO.ite ?_ ?_
      | refine LeO.bind ?_ (fun _ => ?_)
set_option maxHeartbeats 8000000 in
set_option maxRecDepth 100000 in
theorem joistlaw13_PagesMates.calls (k : Nat) (a0 : Int) (A1 : Option Addr) (c1 : Nat) (l1 : List (S44)) (r : Bool) (w : World) (hr1 : Kd.C k44 w A1 l1.length l1) (hc1 : l1.length ≤ c1) (h : joistlaw13_PagesMates.f k a0 l1 = some r) :
    Calls Try.prog 12 #[.int .i64 a0, .slice A1 l1.length c1] w fun e w' => e = .returned (.bool r) ∧ Below w.heap.size w w' := by
  have HR1 := Aside0.mk hr1
  have HC1 := Aside0.mk hc1
  clear hr1 hc1
  have HB := Aside0.mk (Below.refl w.heap.size w)
  have H : ((joistlaw13_small.f k).bind fun t329 => ((pages_Kinds.f a0 l1).bind fun bt330 => (if (l1.length : Int) > 200 then (joistlaw13_PagesMates.j0 k a0 l1 t329 bt330.1 true) else (joistlaw13_PagesMates.j0 k a0 l1 t329 bt330.1 (!bt330.2))))) = some r := h
  clear h
  replace H := Option.bind_eq_some_iff.mp H
  obtain ⟨t329, A30, H⟩ := H
  replace H : ((pages_Kinds.f a0 l1).bind fun bt330 => (if (l1.length : Int) > 200 then (joistlaw13_PagesMates.j0 k a0 l1 t329 bt330.1 true) else (joistlaw13_PagesMates.j0 k a0 l1 t329 bt330.1 (!bt330.2)))) = some r := H
  have A3 := Aside0.mk A30
  clear A30
  replace H := Option.bind_eq_some_iff.mp H
  obtain ⟨⟨t330, t331⟩, A40, H⟩ := H
  replace H : (if (l1.length : Int) > 200 then (joistlaw13_PagesMates.j0 k a0 l1 t329 t330 true) else (joistlaw13_PagesMates.j0 k a0 l1 t329 t330 (!t331))) = some r := H
  have A4 := Aside0.mk A40
  clear A40
  have HC5 := Aside0.mk H
  clear H
  go_enter Try.func12, Try.ntmps12
  go_upto_region 3 with (first | (go_at_call 27; (with_reducible refine (joistlaw13_small.calls k  t329 _ A3.out).mono ?_); rintro e w6 ⟨rfl, hb⟩; have n0_ := Aside0.mk (below_step (by repeat (first | (with_reducible first | exact HB.out | apply below_alloc | apply pw_below_drewN | apply below_drew1) | exact HB.out)) hb); clear HB; have HB := n0_; clear n0_; (try clear hb); (try clear hb2); (try clear hk); (try clear hi)) | (go_at_call 33; (with_reducible refine (pages_Kinds.calls a0 _ _ l1 t330 t331 _ ?side1 ?side2 A4.out).mono ?_); (case side1 => repeat (first | exact (Kd.C_below HR1.out HB.out) | (with_reducible refine Kd.C_alloc ?_ _) | (with_reducible refine Kd.C_drewN ?_ _) | (with_reducible refine Kd.C_drew ?_))); (case side2 => exact HC1.out); rintro e w7 ⟨v332, rfl, ho0, hb⟩; have n0_ := Aside0.mk (Kd.R_lower ho0 (below_size (by repeat (first | (with_reducible first | exact HB.out | apply below_alloc | apply pw_below_drewN | apply below_drew1) | exact HB.out)))); have n1_ := Aside0.mk (below_step (by repeat (first | (with_reducible first | exact HB.out | apply below_alloc | apply pw_below_drewN | apply below_drew1) | exact HB.out)) hb); clear HB; have HO333 := n0_; have HB := n1_; clear n0_ n1_; (try clear hb); (try clear hb2); (try clear hk); (try clear hi); (try clear ho0)))
  repeat (go_quiet (first | (go_at_call 27; (with_reducible refine (joistlaw13_small.calls k  t329 _ A3.out).mono ?_); rintro e w6 ⟨rfl, hb⟩; have n0_ := Aside0.mk (below_step (by repeat (first | (with_reducible first | exact HB.out | apply below_alloc | apply pw_below_drewN | apply below_drew1) | exact HB.out)) hb); clear HB; have HB := n0_; clear n0_; (try clear hb); (try clear hb2); (try clear hk); (try clear hi)) | (go_at_call 33; (with_reducible refine (pages_Kinds.calls a0 _ _ l1 t330 t331 _ ?side1 ?side2 A4.out).mono ?_); (case side1 => repeat (first | exact (Kd.C_below HR1.out HB.out) | (with_reducible refine Kd.C_alloc ?_ _) | (with_reducible refine Kd.C_drewN ?_ _) | (with_reducible refine Kd.C_drew ?_))); (case side2 => exact HC1.out); rintro e w7 ⟨v332, rfl, ho0, hb⟩; have n0_ := Aside0.mk (Kd.R_lower ho0 (below_size (by repeat (first | (with_reducible first | exact HB.out | apply below_alloc | apply pw_below_drewN | apply below_drew1) | exact HB.out)))); have n1_ := Aside0.mk (below_step (by repeat (first | (with_reducible first | exact HB.out | apply below_alloc | apply pw_below_drewN | apply below_drew1) | exact HB.out)) hb); clear HB; have HO333 := n0_; have HB := n1_; clear n0_ n1_; (try clear hb); (try clear hb2); (try clear hk); (try clear hi); (try clear ho0))); go_upto_region 3 with (first | (go_at_call 27; (with_reducible refine (joistlaw13_small.calls k  t329 _ A3.out).mono ?_); rintro e w6 ⟨rfl, hb⟩; have n0_ := Aside0.mk (below_step (by repeat (first | (with_reducible first | exact HB.out | apply below_alloc | apply pw_below_drewN | apply below_drew1) | exact HB.out)) hb); clear HB; have HB := n0_; clear n0_; (try clear hb); (try clear hb2); (try clear hk); (try clear hi)) | (go_at_call 33; (with_reducible refine (pages_Kinds.calls a0 _ _ l1 t330 t331 _ ?side1 ?side2 A4.out).mono ?_); (case side1 => repeat (first | exact (Kd.C_below HR1.out HB.out) | (with_reducible refine Kd.C_alloc ?_ _) | (with_reducible refine Kd.C_drewN ?_ _) | (with_reducible refine Kd.C_drew ?_))); (case side2 => exact HC1.out); rintro e w7 ⟨v332, rfl, ho0, hb⟩; have n0_ := Aside0.mk (Kd.R_lower ho0 (below_size (by repeat (first | (with_reducible first | exact HB.out | apply below_alloc | apply pw_below_drewN | apply below_drew1) | exact HB.out)))); have n1_ := Aside0.mk (below_step (by repeat (first | (with_reducible first | exact HB.out | apply below_alloc | apply pw_below_drewN | apply below_drew1) | exact HB.out)) hb); clear HB; have HO333 := n0_; have HB := n1_; clear n0_ n1_; (try clear hb); (try clear hb2); (try clear hk); (try clear hi); (try clear ho0))))
  (try simp only [Act.put, List.setIfInBounds_toArray, List.set_cons_zero, List.set_cons_succ])
  go_cut [31] (fun v31 wc => ∃ (kq : Nat) (x31_4 : Bool), v31 = .bool x31_4 ∧ Aside0 (joistlaw13_PagesMates.j0 kq a0 l1 t329 t330 x31_4 = some r) ∧ Aside0 (kq ≤ k) ∧ Aside0 (Kd.R (Kd.int .i64) 3 wc w.heap.size (fun _ => True) v332 t330) ∧ Aside0 (Below w.heap.size w wc))
  case first =>
    have H := HC5.out
    clear HC5
    by_cases c8 : (l1.length : Int) > 200
    · rw [if_pos c8] at H
      have c8b0 : decide (200 < (l1.length : Int)) = true := decide_eq_true c8
      have c8b1 : decide (200 < l1.length) = true := decide_eq_true (by omega)
      clear c8
      (first | rw [c8b0] | (simp only [i64_w, i32_w]; rw [c8b0]) | skip)
      have H' := Aside0.mk H
      clear H
      go_wp2
      repeat (go_quiet (fail); try go_wp2)
      go_meet
      case rel => exact ⟨_, (true), (by first | rfl | (simp; done) | (simp [*]; done)), H', ⟨by first | omega | exact Nat.le_refl _⟩, ⟨by (with_reducible repeat (first | apply Kd.R_alloc | apply Kd.R_drewN | apply Kd.R_drew)); exact HO333.out⟩, ⟨by repeat (first | (with_reducible first | exact HB.out | apply below_alloc | apply pw_below_drewN | apply below_drew1) | exact HB.out)⟩⟩
    · rw [if_neg c8] at H
      have c8b0 : decide (200 < (l1.length : Int)) = false := decide_eq_false c8
      have c8b1 : decide (200 < l1.length) = false := decide_eq_false (by omega)
      clear c8
      (first | rw [c8b0] | (simp only [i64_w, i32_w]; rw [c8b0]) | skip)
      have H' := Aside0.mk H
      clear H
      go_wp2
      repeat (go_quiet (fail); try go_wp2)
      go_meet
      case rel => exact ⟨_, (!t331), (by first | rfl | (simp; done) | (simp [*]; done)), H', ⟨by first | omega | exact Nat.le_refl _⟩, ⟨by (with_reducible repeat (first | apply Kd.R_alloc | apply Kd.R_drewN | apply Kd.R_drew)); exact HO333.out⟩, ⟨by repeat (first | (with_reducible first | exact HB.out | apply below_alloc | apply pw_below_drewN | apply below_drew1) | exact HB.out)⟩⟩
  case rest =>
    clear HC5
    try clear c1
    try clear p2
    try clear c8
    try clear c8b0
    try clear c8b1
    obtain ⟨kq, x31_4, rfl, HA, HJ4, HO_6, HB⟩ := hcut
    cases kq with
    | zero => exact absurd HA.out (by simp [joistlaw13_PagesMates.j0])
    | succ kj4 =>
      have H := HA.out
      clear HA
      simp only [joistlaw13_PagesMates.j0] at H
      by_cases c9 : x31_4 = true
      · subst c9
        have H1 : (some t329) = some r := by rw [if_pos rfl] at H; exact H
        clear H
        have H := H1
        clear H1
        obtain rfl := Option.some.inj H
        go_wp2
        repeat (go_quiet (fail); try go_wp2)
        go_ret
        exact ⟨by first | rfl | (simp [errW_none, errW_some] <;> rfl) | (simp [*, errW_none, errW_some] <;> rfl), by repeat (first | (with_reducible first | exact HB.out | apply below_alloc | apply pw_below_drewN | apply below_drew1) | exact HB.out)⟩
      · replace c9 := Bool.eq_false_iff.mpr c9
        subst c9
        have H1 : (joistlaw13_PagesMates.l0 kj4 a0 l1 t329 t330 0 0) = some r := by rw [if_neg (show ¬ (false = true) by decide)] at H; exact H
        clear H
        have H := H1
        clear H1
        have H' := Aside0.mk H
        clear H
        go_wp2
        repeat (go_quiet (fail); try go_wp2)
        go_loopg [8, 9] kj4 (fun kq v8 v9 w' => ∃ (x8_2 : Int) (x9_2 : Int), v8 = .int .i64 x8_2 ∧ v9 = .int .i64 x9_2 ∧ Aside0 (joistlaw13_PagesMates.l0 kq a0 l1 t329 t330 x8_2 x9_2 = some r) ∧ Aside0 (kq ≤ kj4) ∧ Aside0 (Kd.R (Kd.int .i64) 3 w' w.heap.size (fun _ => True) v332 t330) ∧ Aside0 (Below w.heap.size w w'))
        case atStart => exact ⟨(0), (0), (by first | rfl | (simp; done) | (simp [*]; done)), (by first | rfl | (simp; done) | (simp [*]; done)), H', ⟨Nat.le_refl _⟩, ⟨by (with_reducible repeat (first | apply Kd.R_alloc | apply Kd.R_drewN | apply Kd.R_drew)); exact HO_6.out⟩, ⟨by repeat (first | (with_reducible first | exact HB.out | apply below_alloc | apply pw_below_drewN | apply below_drew1) | exact HB.out)⟩⟩
        case round =>
          clear H'
          try clear c1
          try clear p2
          try clear c8
          try clear c8b0
          try clear c8b1
          try clear c9
          try clear p2
          obtain ⟨x8_2, x9_2, rfl, rfl, HA, HK2, HO_6, HB⟩ := hrel
          cases gk with
          | zero => exact absurd HA.out (by simp [joistlaw13_PagesMates.l0])
          | succ k2 =>
            have H := HA.out
            clear HA
            simp only [joistlaw13_PagesMates.l0] at H
            have HC10 := Aside0.mk H
            clear H
            go_upto_region 7 with (fail)
            repeat (go_quiet (fail); go_upto_region 7 with (fail))
            go_cut [41] (fun v41 wc => ∃ (kq : Nat) (x41_9 : Bool), v41 = .bool x41_9 ∧ Aside0 (joistlaw13_PagesMates.j2 kq a0 l1 t329 t330 x8_2 x9_2 x41_9 = some r) ∧ Aside0 (kq ≤ k2) ∧ Aside0 (Kd.R (Kd.int .i64) 3 wc w.heap.size (fun _ => True) v332 t330) ∧ Aside0 (Below w.heap.size w wc))
            case first =>
              have H := HC10.out
              clear HC10
              by_cases c11 : x9_2 < a0
              · rw [if_pos c11] at H
                have c11b0 : decide (x9_2 < a0) = true := decide_eq_true c11
                clear c11
                (first | rw [c11b0] | (simp only [i64_w, i32_w]; rw [c11b0]) | skip)
                have H' := Aside0.mk H
                clear H
                obtain ⟨Ao12, co12, eo12⟩ := Kd.R_slice HO_6.out
                subst eo12
                go_wp2
                repeat (go_quiet (fail); try go_wp2)
                go_meet
                case rel => exact ⟨_, (decide (x9_2 < (t330.length : Int))), (by first | rfl | (simp; done) | (simp [*]; done)), H', ⟨by have := HJ4.out; have := HK2.out; first | omega | exact Nat.le_refl _⟩, ⟨by (with_reducible repeat (first | apply Kd.R_alloc | apply Kd.R_drewN | apply Kd.R_drew)); exact HO_6.out⟩, ⟨by repeat (first | (with_reducible first | exact HB.out | apply below_alloc | apply pw_below_drewN | apply below_drew1) | exact HB.out)⟩⟩
              · rw [if_neg c11] at H
                have c11b0 : decide (x9_2 < a0) = false := decide_eq_false c11
                clear c11
                (first | rw [c11b0] | (simp only [i64_w, i32_w]; rw [c11b0]) | skip)
                have H' := Aside0.mk H
                clear H
                go_wp2
                repeat (go_quiet (fail); try go_wp2)
                go_meet
                case rel => exact ⟨_, (false), (by first | rfl | (simp; done) | (simp [*]; done)), H', ⟨by have := HJ4.out; have := HK2.out; first | omega | exact Nat.le_refl _⟩, ⟨by (with_reducible repeat (first | apply Kd.R_alloc | apply Kd.R_drewN | apply Kd.R_drew)); exact HO_6.out⟩, ⟨by repeat (first | (with_reducible first | exact HB.out | apply below_alloc | apply pw_below_drewN | apply below_drew1) | exact HB.out)⟩⟩
            case rest =>
              clear HC10
              try clear c1
              try clear p2
              try clear c8
              try clear c8b0
              try clear c8b1
              try clear c9
              try clear c11
              try clear c11b0
              try clear c12
              try clear p2
              obtain ⟨kq, x41_9, rfl, HA, HJ9, HO_6, HB⟩ := hcut
              cases kq with
              | zero => exact absurd HA.out (by simp [joistlaw13_PagesMates.j2])
              | succ kj9 =>
                have H := HA.out
                clear HA
                simp only [joistlaw13_PagesMates.j2] at H
                by_cases c13 : x41_9 = true
                · subst c13
                  have H1 : ((pages_Mates.f a0 l1 x9_2).bind fun t334 => (if 0 ≤ x9_2 then (if x9_2 < (t330.length : Int) then (if (((t334.length : Int) == 0) != ((rd t330 x9_2) == (-1))) = true then (joistlaw13_PagesMates.j3 kj9 a0 l1 t329 t330 (wrap64 (x8_2 + (t334.length : Int))) x9_2 t334 true) else (if (rd t330 x9_2) ≥ 6 then (joistlaw13_PagesMates.j3 kj9 a0 l1 t329 t330 (wrap64 (x8_2 + (t334.length : Int))) x9_2 t334 ((t334.length : Int) != 1)) else (joistlaw13_PagesMates.j3 kj9 a0 l1 t329 t330 (wrap64 (x8_2 + (t334.length : Int))) x9_2 t334 false))) else (none)) else (none))) = some r := by rw [if_pos rfl] at H; exact H
                  clear H
                  have H := H1
                  clear H1
                  replace H := Option.bind_eq_some_iff.mp H
                  obtain ⟨t334, A140, H⟩ := H
                  replace H : (if 0 ≤ x9_2 then (if x9_2 < (t330.length : Int) then (if (((t334.length : Int) == 0) != ((rd t330 x9_2) == (-1))) = true then (joistlaw13_PagesMates.j3 kj9 a0 l1 t329 t330 (wrap64 (x8_2 + (t334.length : Int))) x9_2 t334 true) else (if (rd t330 x9_2) ≥ 6 then (joistlaw13_PagesMates.j3 kj9 a0 l1 t329 t330 (wrap64 (x8_2 + (t334.length : Int))) x9_2 t334 ((t334.length : Int) != 1)) else (joistlaw13_PagesMates.j3 kj9 a0 l1 t329 t330 (wrap64 (x8_2 + (t334.length : Int))) x9_2 t334 false))) else (none)) else (none)) = some r := H
                  have A14 := Aside0.mk A140
                  clear A140
                  have HC15 := Aside0.mk H
                  clear H
                  go_upto_region 11 with (first | (go_at_call 37; (with_reducible refine (pages_Mates.calls a0 _ _ l1 x9_2 t334 _ ?side1 ?side2 A14.out).mono ?_); (case side1 => repeat (first | exact (Kd.C_below HR1.out HB.out) | (with_reducible refine Kd.C_alloc ?_ _) | (with_reducible refine Kd.C_drewN ?_ _) | (with_reducible refine Kd.C_drew ?_))); (case side2 => exact HC1.out); rintro e w16 ⟨v335, rfl, ho0, hb⟩; have n0_ := Aside0.mk (Kd.R_elder' (by (with_reducible repeat (first | apply Kd.R_alloc | apply Kd.R_drewN | apply Kd.R_drew)); exact HO_6.out) (Kd.R_base ho0) hb); have n1_ := Aside0.mk (Kd.R_lower (Kd.R_new' ho0 (Kd.R_lt (by (with_reducible repeat (first | apply Kd.R_alloc | apply Kd.R_drewN | apply Kd.R_drew)); exact HO_6.out))) (below_size (by repeat (first | (with_reducible first | exact HB.out | apply below_alloc | apply pw_below_drewN | apply below_drew1) | exact HB.out)))); have n2_ := Aside0.mk (below_step (by repeat (first | (with_reducible first | exact HB.out | apply below_alloc | apply pw_below_drewN | apply below_drew1) | exact HB.out)) hb); clear HO_6; clear HB; have HO_6 := n0_; have HO336 := n1_; have HB := n2_; clear n0_ n1_ n2_; (try clear hb); (try clear hb2); (try clear hk); (try clear hi); (try clear ho0); obtain ⟨Ao17, co17, eo17⟩ := Kd.R_slice HO336.out; subst eo17))
                  repeat (go_quiet (first | (go_at_call 37; (with_reducible refine (pages_Mates.calls a0 _ _ l1 x9_2 t334 _ ?side1 ?side2 A14.out).mono ?_); (case side1 => repeat (first | exact (Kd.C_below HR1.out HB.out) | (with_reducible refine Kd.C_alloc ?_ _) | (with_reducible refine Kd.C_drewN ?_ _) | (with_reducible refine Kd.C_drew ?_))); (case side2 => exact HC1.out); rintro e w16 ⟨v335, rfl, ho0, hb⟩; have n0_ := Aside0.mk (Kd.R_elder' (by (with_reducible repeat (first | apply Kd.R_alloc | apply Kd.R_drewN | apply Kd.R_drew)); exact HO_6.out) (Kd.R_base ho0) hb); have n1_ := Aside0.mk (Kd.R_lower (Kd.R_new' ho0 (Kd.R_lt (by (with_reducible repeat (first | apply Kd.R_alloc | apply Kd.R_drewN | apply Kd.R_drew)); exact HO_6.out))) (below_size (by repeat (first | (with_reducible first | exact HB.out | apply below_alloc | apply pw_below_drewN | apply below_drew1) | exact HB.out)))); have n2_ := Aside0.mk (below_step (by repeat (first | (with_reducible first | exact HB.out | apply below_alloc | apply pw_below_drewN | apply below_drew1) | exact HB.out)) hb); clear HO_6; clear HB; have HO_6 := n0_; have HO336 := n1_; have HB := n2_; clear n0_ n1_ n2_; (try clear hb); (try clear hb2); (try clear hk); (try clear hi); (try clear ho0); obtain ⟨Ao17, co17, eo17⟩ := Kd.R_slice HO336.out; subst eo17)); go_upto_region 11 with (first | (go_at_call 37; (with_reducible refine (pages_Mates.calls a0 _ _ l1 x9_2 t334 _ ?side1 ?side2 A14.out).mono ?_); (case side1 => repeat (first | exact (Kd.C_below HR1.out HB.out) | (with_reducible refine Kd.C_alloc ?_ _) | (with_reducible refine Kd.C_drewN ?_ _) | (with_reducible refine Kd.C_drew ?_))); (case side2 => exact HC1.out); rintro e w16 ⟨v335, rfl, ho0, hb⟩; have n0_ := Aside0.mk (Kd.R_elder' (by (with_reducible repeat (first | apply Kd.R_alloc | apply Kd.R_drewN | apply Kd.R_drew)); exact HO_6.out) (Kd.R_base ho0) hb); have n1_ := Aside0.mk (Kd.R_lower (Kd.R_new' ho0 (Kd.R_lt (by (with_reducible repeat (first | apply Kd.R_alloc | apply Kd.R_drewN | apply Kd.R_drew)); exact HO_6.out))) (below_size (by repeat (first | (with_reducible first | exact HB.out | apply below_alloc | apply pw_below_drewN | apply below_drew1) | exact HB.out)))); have n2_ := Aside0.mk (below_step (by repeat (first | (with_reducible first | exact HB.out | apply below_alloc | apply pw_below_drewN | apply below_drew1) | exact HB.out)) hb); clear HO_6; clear HB; have HO_6 := n0_; have HO336 := n1_; have HB := n2_; clear n0_ n1_ n2_; (try clear hb); (try clear hb2); (try clear hk); (try clear hi); (try clear ho0); obtain ⟨Ao17, co17, eo17⟩ := Kd.R_slice HO336.out; subst eo17)))
                  (try simp only [Act.put, List.setIfInBounds_toArray, List.set_cons_zero, List.set_cons_succ])
                  go_cut [72] (fun v72 wc => ∃ (kq : Nat) (x72_14 : Bool), v72 = .bool x72_14 ∧ Aside0 (joistlaw13_PagesMates.j3 kq a0 l1 t329 t330 (wrap64 (x8_2 + (t334.length : Int))) x9_2 t334 x72_14 = some r) ∧ Aside0 (kq ≤ kj9) ∧ Aside0 (Kd.R (Kd.int .i64) 3 wc w.heap.size (fun k_ => some k_ ≠ ((.slice Ao17 t334.length co17) : Value).ownBlock) v332 t330) ∧ Aside0 (Kd.R (Kd.int .i64) 3 wc w.heap.size (fun k_ => some k_ ≠ (v332 : Value).ownBlock) (.slice Ao17 t334.length co17) t334) ∧ Aside0 (Below w.heap.size w wc))
                  case first =>
                    have H := HC15.out
                    clear HC15
                    by_cases c18 : 0 ≤ x9_2
                    · rw [if_pos c18] at H
                      have c18b0 : decide (0 ≤ x9_2) = true := decide_eq_true c18
                      clear c18
                      (first | rw [c18b0] | (simp only [i64_w, i32_w]; rw [c18b0]) | skip)
                      by_cases c19 : x9_2 < (t330.length : Int)
                      · rw [if_pos c19] at H
                        have c19b0 : decide (x9_2 < (t330.length : Int)) = true := decide_eq_true c19
                        clear c19
                        by_cases c20 : (((t334.length : Int) == 0) != ((rd t330 x9_2) == (-1))) = true
                        · rw [if_pos c20] at H
                          have c20b0 : (((t334.length : Int) == 0) != ((rd t330 x9_2) == (-1))) = true := c20
                          (try (have c20b1 : decide (((t334.length : Int) == 0) = ((rd t330 x9_2) == (-1))) = false := by simpa using c20))
                          (try (have c20b2 : (((t334.length : Int) == 0) == ((rd t330 x9_2) == (-1))) = false := by simpa using c20))
                          (try (have c20b3 : ¬ (((t334.length : Int) == 0) = ((rd t330 x9_2) == (-1))) := by simpa using c20))
                          clear c20
                          have H' := Aside0.mk H
                          clear H
                          obtain ⟨Ao21, co21, eo21⟩ := Kd.R_slice HO_6.out
                          subst eo21
                          have p337 : 0 ≤ (x9_2 : Int) := of_decide_eq_true (by first | (with_reducible assumption) | assumption)
                          have q337 : x9_2 < (t330.length : Int) := of_decide_eq_true (by first | (with_reducible assumption) | assumption)
                          obtain ⟨ad337, e337, hx337_0⟩ := Kd.at_int (Kd.R_reads' HO_6.out).2.2 x9_2 p337 q337
                          cases e337
                          replace p337 := eq_true p337
                          replace q337 := eq_true q337
                          go_wp2
                          repeat (go_quiet (fail); try go_wp2)
                          go_meet
                          case rel => exact ⟨_, (true), (by first | rfl | (simp; done) | (simp [*]; done)), H', ⟨by have := HJ4.out; have := HK2.out; have := HJ9.out; first | omega | exact Nat.le_refl _⟩, ⟨by (with_reducible repeat (first | apply Kd.R_alloc | apply Kd.R_drewN | apply Kd.R_drew)); exact Kd.R_mono HO_6.out (fun _ hk => hk.2)⟩, ⟨by (with_reducible repeat (first | apply Kd.R_alloc | apply Kd.R_drewN | apply Kd.R_drew)); exact Kd.R_mono HO336.out (fun _ hk => hk.2)⟩, ⟨by repeat (first | (with_reducible first | exact HB.out | apply below_alloc | apply pw_below_drewN | apply below_drew1) | exact HB.out)⟩⟩
                        · rw [if_neg c20] at H
                          have c20b0 : (((t334.length : Int) == 0) != ((rd t330 x9_2) == (-1))) = false := by simpa using c20
                          (try (have c20b1 : decide (((t334.length : Int) == 0) = ((rd t330 x9_2) == (-1))) = true := by simpa using c20))
                          (try (have c20b2 : (((t334.length : Int) == 0) == ((rd t330 x9_2) == (-1))) = true := by simpa using c20))
                          clear c20
                          by_cases c22 : (rd t330 x9_2) ≥ 6
                          · rw [if_pos c22] at H
                            have c22b0 : decide (6 ≤ (rd t330 x9_2)) = true := decide_eq_true c22
                            clear c22
                            have H' := Aside0.mk H
                            clear H
                            obtain ⟨Ao23, co23, eo23⟩ := Kd.R_slice HO_6.out
                            subst eo23
                            have p337 : 0 ≤ (x9_2 : Int) := of_decide_eq_true (by first | (with_reducible assumption) | assumption)
                            have q337 : x9_2 < (t330.length : Int) := of_decide_eq_true (by first | (with_reducible assumption) | assumption)
                            obtain ⟨ad337, e337, hx337_0⟩ := Kd.at_int (Kd.R_reads' HO_6.out).2.2 x9_2 p337 q337
                            cases e337
                            replace p337 := eq_true p337
                            replace q337 := eq_true q337
                            have p338 : 0 ≤ (x9_2 : Int) := of_decide_eq_true (by first | (with_reducible assumption) | assumption)
                            have q338 : x9_2 < (t330.length : Int) := of_decide_eq_true (by first | (with_reducible assumption) | assumption)
                            obtain ⟨ad338, e338, hx338_0⟩ := Kd.at_int (Kd.R_reads' HO_6.out).2.2 x9_2 p338 q338
                            obtain rfl : ad337 = ad338 := (by injection e338)
                            replace p338 := eq_true p338
                            replace q338 := eq_true q338
                            go_wp2
                            repeat (go_quiet (fail); try go_wp2)
                            go_meet
                            case rel => exact ⟨_, (((t334.length : Int) != 1)), (by first | rfl | (simp; done) | (simp [*]; done)), H', ⟨by have := HJ4.out; have := HK2.out; have := HJ9.out; first | omega | exact Nat.le_refl _⟩, ⟨by (with_reducible repeat (first | apply Kd.R_alloc | apply Kd.R_drewN | apply Kd.R_drew)); exact Kd.R_mono HO_6.out (fun _ hk => hk.2)⟩, ⟨by (with_reducible repeat (first | apply Kd.R_alloc | apply Kd.R_drewN | apply Kd.R_drew)); exact Kd.R_mono HO336.out (fun _ hk => hk.2)⟩, ⟨by repeat (first | (with_reducible first | exact HB.out | apply below_alloc | apply pw_below_drewN | apply below_drew1) | exact HB.out)⟩⟩
                          · rw [if_neg c22] at H
                            have c22b0 : decide (6 ≤ (rd t330 x9_2)) = false := decide_eq_false c22
                            clear c22
                            have H' := Aside0.mk H
                            clear H
                            obtain ⟨Ao24, co24, eo24⟩ := Kd.R_slice HO_6.out
                            subst eo24
                            have p337 : 0 ≤ (x9_2 : Int) := of_decide_eq_true (by first | (with_reducible assumption) | assumption)
                            have q337 : x9_2 < (t330.length : Int) := of_decide_eq_true (by first | (with_reducible assumption) | assumption)
                            obtain ⟨ad337, e337, hx337_0⟩ := Kd.at_int (Kd.R_reads' HO_6.out).2.2 x9_2 p337 q337
                            cases e337
                            replace p337 := eq_true p337
                            replace q337 := eq_true q337
                            have p338 : 0 ≤ (x9_2 : Int) := of_decide_eq_true (by first | (with_reducible assumption) | assumption)
                            have q338 : x9_2 < (t330.length : Int) := of_decide_eq_true (by first | (with_reducible assumption) | assumption)
                            obtain ⟨ad338, e338, hx338_0⟩ := Kd.at_int (Kd.R_reads' HO_6.out).2.2 x9_2 p338 q338
                            obtain rfl : ad337 = ad338 := (by injection e338)
                            replace p338 := eq_true p338
                            replace q338 := eq_true q338
                            go_wp2
                            repeat (go_quiet (fail); try go_wp2)
                            go_meet
                            case rel => exact ⟨_, (false), (by first | rfl | (simp; done) | (simp [*]; done)), H', ⟨by have := HJ4.out; have := HK2.out; have := HJ9.out; first | omega | exact Nat.le_refl _⟩, ⟨by (with_reducible repeat (first | apply Kd.R_alloc | apply Kd.R_drewN | apply Kd.R_drew)); exact Kd.R_mono HO_6.out (fun _ hk => hk.2)⟩, ⟨by (with_reducible repeat (first | apply Kd.R_alloc | apply Kd.R_drewN | apply Kd.R_drew)); exact Kd.R_mono HO336.out (fun _ hk => hk.2)⟩, ⟨by repeat (first | (with_reducible first | exact HB.out | apply below_alloc | apply pw_below_drewN | apply below_drew1) | exact HB.out)⟩⟩
                      · rw [if_neg c19] at H
                        exact absurd H (by simp)
                    · rw [if_neg c18] at H
                      exact absurd H (by simp)
                  case rest =>
                    clear HC15
                    try clear c1
                    try clear c2
                    try clear p2
                    try clear p3
                    try clear q3
                    try clear hx3
                    try clear p6
                    try clear c8
                    try clear c8b0
                    try clear c8b1
                    try clear c9
                    try clear c11
                    try clear c11b0
                    try clear c12
                    try clear c13
                    try clear c18
                    try clear c18b0
                    try clear c19
                    try clear c19b0
                    try clear c20
                    try clear c20b0
                    try clear c20b1
                    try clear c20b2
                    try clear c22
                    try clear c22b0
                    try clear hx337_0
                    try clear hx338_0
                    try clear p2
                    try clear p337
                    try clear p338
                    try clear q337
                    try clear q338
                    obtain ⟨kq, x72_14, rfl, HA, HJ14, HO_6, HO_10, HB⟩ := hcut
                    cases kq with
                    | zero => exact absurd HA.out (by simp [joistlaw13_PagesMates.j3])
                    | succ kj14 =>
                      have H := HA.out
                      clear HA
                      simp only [joistlaw13_PagesMates.j3] at H
                      by_cases c25 : x72_14 = true
                      · subst c25
                        have H1 : (some false) = some r := by rw [if_pos rfl] at H; exact H
                        clear H
                        have H := H1
                        clear H1
                        obtain rfl := Option.some.inj H
                        go_wp2
                        repeat (go_quiet (fail); try go_wp2)
                        go_ret
                        exact ⟨by first | rfl | (simp [errW_none, errW_some] <;> rfl) | (simp [*, errW_none, errW_some] <;> rfl), by repeat (first | (with_reducible first | exact HB.out | apply below_alloc | apply pw_below_drewN | apply below_drew1) | exact HB.out)⟩
                      · replace c25 := Bool.eq_false_iff.mpr c25
                        subst c25
                        have H1 : (joistlaw13_PagesMates.l1 kj14 a0 l1 t329 t330 (wrap64 (x8_2 + (t334.length : Int))) x9_2 t334 0) = some r := by rw [if_neg (show ¬ (false = true) by decide)] at H; exact H
                        clear H
                        have H := H1
                        clear H1
                        have H' := Aside0.mk H
                        clear H
                        go_wp2
                        repeat (go_quiet (fail); try go_wp2)
                        go_loopg [11] kj14 (fun kq v11 w' => ∃ (x11_5 : Int), v11 = .int .i64 x11_5 ∧ Aside0 (joistlaw13_PagesMates.l1 kq a0 l1 t329 t330 (wrap64 (x8_2 + (t334.length : Int))) x9_2 t334 x11_5 = some r) ∧ Aside0 (kq ≤ kj14) ∧ Aside0 (Kd.R (Kd.int .i64) 3 w' w.heap.size (fun k_ => some k_ ≠ ((.slice Ao17 t334.length co17) : Value).ownBlock) v332 t330) ∧ Aside0 (Kd.R (Kd.int .i64) 3 w' w.heap.size (fun k_ => some k_ ≠ (v332 : Value).ownBlock) (.slice Ao17 t334.length co17) t334) ∧ Aside0 (Below w.heap.size w w'))
                        case atStart => exact ⟨(0), (by first | rfl | (simp; done) | (simp [*]; done)), H', ⟨Nat.le_refl _⟩, ⟨by (with_reducible repeat (first | apply Kd.R_alloc | apply Kd.R_drewN | apply Kd.R_drew)); exact HO_6.out⟩, ⟨by (with_reducible repeat (first | apply Kd.R_alloc | apply Kd.R_drewN | apply Kd.R_drew)); exact HO_10.out⟩, ⟨by repeat (first | (with_reducible first | exact HB.out | apply below_alloc | apply pw_below_drewN | apply below_drew1) | exact HB.out)⟩⟩
                        case round =>
                          clear H'
                          try clear c1
                          try clear c2
                          try clear p2
                          try clear p3
                          try clear q3
                          try clear hx3
                          try clear p6
                          try clear c8
                          try clear c8b0
                          try clear c8b1
                          try clear c9
                          try clear c11
                          try clear c11b0
                          try clear c12
                          try clear c13
                          try clear c18
                          try clear c18b0
                          try clear c19
                          try clear c19b0
                          try clear c20
                          try clear c20b0
                          try clear c20b1
                          try clear c20b2
                          try clear c22
                          try clear c22b0
                          try clear c25
                          try clear hx337_0
                          try clear hx338_0
                          try clear p2
                          try clear p3
                          try clear p337
                          try clear p338
                          try clear p6
                          try clear q3
                          try clear q337
                          try clear q338
                          obtain ⟨x11_5, rfl, HA, HK5, HO_6, HO_10, HB⟩ := hrel
                          cases gk with
                          | zero => exact absurd HA.out (by simp [joistlaw13_PagesMates.l1])
                          | succ k5 =>
                            have H := HA.out
                            clear HA
                            simp only [joistlaw13_PagesMates.l1] at H
                            by_cases c26 : x11_5 < (t334.length : Int)
                            · rw [if_pos c26] at H
                              have c26b0 : decide (x11_5 < (t334.length : Int)) = true := decide_eq_true c26
                              clear c26
                              have HC27 := Aside0.mk H
                              clear H
                              go_upto_region 16 with (fail)
                              repeat (go_quiet (fail); go_upto_region 16 with (fail))
                              go_cut [108] (fun v108 wc => ∃ (kq : Nat) (x108_26 : Bool), v108 = .bool x108_26 ∧ Aside0 (joistlaw13_PagesMates.j5 kq a0 l1 t329 t330 (wrap64 (x8_2 + (t334.length : Int))) x9_2 t334 x11_5 x108_26 = some r) ∧ Aside0 (kq ≤ k5) ∧ Aside0 (Kd.R (Kd.int .i64) 3 wc w.heap.size (fun k_ => some k_ ≠ ((.slice Ao17 t334.length co17) : Value).ownBlock) v332 t330) ∧ Aside0 (Kd.R (Kd.int .i64) 3 wc w.heap.size (fun k_ => some k_ ≠ (v332 : Value).ownBlock) (.slice Ao17 t334.length co17) t334) ∧ Aside0 (Below w.heap.size w wc))
                              case first =>
                                have H := HC27.out
                                clear HC27
                                by_cases c28 : 0 ≤ x11_5
                                · rw [if_pos c28] at H
                                  have c28b0 : decide (0 ≤ x11_5) = true := decide_eq_true c28
                                  clear c28
                                  (first | rw [c28b0] | (simp only [i64_w, i32_w]; rw [c28b0]) | skip)
                                  by_cases c29 : (rd t334 x11_5) < 0
                                  · rw [if_pos c29] at H
                                    have c29b0 : decide ((rd t334 x11_5) < 0) = true := decide_eq_true c29
                                    clear c29
                                    have H' := Aside0.mk H
                                    clear H
                                    have p339 : 0 ≤ (x11_5 : Int) := of_decide_eq_true (by first | (with_reducible assumption) | assumption)
                                    have q339 : x11_5 < (t334.length : Int) := of_decide_eq_true (by first | (with_reducible assumption) | assumption)
                                    obtain ⟨ad339, e339, hx339_0⟩ := Kd.at_int (Kd.R_reads' HO_10.out).2.2 x11_5 p339 q339
                                    cases e339
                                    replace p339 := eq_true p339
                                    replace q339 := eq_true q339
                                    go_wp2
                                    repeat (go_quiet (fail); try go_wp2)
                                    go_meet
                                    case rel => exact ⟨_, (true), (by first | rfl | (simp; done) | (simp [*]; done)), H', ⟨by have := HJ4.out; have := HK2.out; have := HJ9.out; have := HJ14.out; have := HK5.out; first | omega | exact Nat.le_refl _⟩, ⟨by (with_reducible repeat (first | apply Kd.R_alloc | apply Kd.R_drewN | apply Kd.R_drew)); exact HO_6.out⟩, ⟨by (with_reducible repeat (first | apply Kd.R_alloc | apply Kd.R_drewN | apply Kd.R_drew)); exact HO_10.out⟩, ⟨by repeat (first | (with_reducible first | exact HB.out | apply below_alloc | apply pw_below_drewN | apply below_drew1) | exact HB.out)⟩⟩
                                  · rw [if_neg c29] at H
                                    have c29b0 : decide ((rd t334 x11_5) < 0) = false := decide_eq_false c29
                                    clear c29
                                    by_cases c30 : (rd t334 x11_5) ≥ (l1.length : Int)
                                    · rw [if_pos c30] at H
                                      have c30b0 : decide ((l1.length : Int) ≤ (rd t334 x11_5)) = true := decide_eq_true c30
                                      clear c30
                                      have H' := Aside0.mk H
                                      clear H
                                      have p339 : 0 ≤ (x11_5 : Int) := of_decide_eq_true (by first | (with_reducible assumption) | assumption)
                                      have q339 : x11_5 < (t334.length : Int) := of_decide_eq_true (by first | (with_reducible assumption) | assumption)
                                      obtain ⟨ad339, e339, hx339_0⟩ := Kd.at_int (Kd.R_reads' HO_10.out).2.2 x11_5 p339 q339
                                      cases e339
                                      replace p339 := eq_true p339
                                      replace q339 := eq_true q339
                                      have p340 : 0 ≤ (x11_5 : Int) := of_decide_eq_true (by first | (with_reducible assumption) | assumption)
                                      have q340 : x11_5 < (t334.length : Int) := of_decide_eq_true (by first | (with_reducible assumption) | assumption)
                                      obtain ⟨ad340, e340, hx340_0⟩ := Kd.at_int (Kd.R_reads' HO_10.out).2.2 x11_5 p340 q340
                                      obtain rfl : ad339 = ad340 := (by injection e340)
                                      replace p340 := eq_true p340
                                      replace q340 := eq_true q340
                                      go_wp2
                                      repeat (go_quiet (fail); try go_wp2)
                                      go_meet
                                      case rel => exact ⟨_, (true), (by first | rfl | (simp; done) | (simp [*]; done)), H', ⟨by have := HJ4.out; have := HK2.out; have := HJ9.out; have := HJ14.out; have := HK5.out; first | omega | exact Nat.le_refl _⟩, ⟨by (with_reducible repeat (first | apply Kd.R_alloc | apply Kd.R_drewN | apply Kd.R_drew)); exact HO_6.out⟩, ⟨by (with_reducible repeat (first | apply Kd.R_alloc | apply Kd.R_drewN | apply Kd.R_drew)); exact HO_10.out⟩, ⟨by repeat (first | (with_reducible first | exact HB.out | apply below_alloc | apply pw_below_drewN | apply below_drew1) | exact HB.out)⟩⟩
                                    · rw [if_neg c30] at H
                                      have c30b0 : decide ((l1.length : Int) ≤ (rd t334 x11_5)) = false := decide_eq_false c30
                                      clear c30
                                      by_cases c31 : x11_5 > 0
                                      · rw [if_pos c31] at H
                                        have c31b0 : decide (0 < x11_5) = true := decide_eq_true c31
                                        clear c31
                                        obtain ⟨ji32, hji32⟩ : ∃ j_ : Int, (wrap64 (x11_5 - 1)) = j_ := ⟨_, rfl⟩
                                        replace H : (if 0 ≤ (ji32) then (if (ji32) < (t334.length : Int) then (joistlaw13_PagesMates.j5 k5 a0 l1 t329 t330 (wrap64 (x8_2 + (t334.length : Int))) x9_2 t334 x11_5 (decide ((rd t334 x11_5) ≤ (rd t334 (ji32))))) else (none)) else (none)) = some r := by first | (rw [hji32] at H; exact H) | (simp only [hji32] at H ⊢; exact H)
                                        have hji32w : (IntKind.i64.wrap (x11_5 - 1)) = ji32 := (i64_w _).trans hji32
                                        by_cases c33 : 0 ≤ (ji32)
                                        · rw [if_pos c33] at H
                                          have c33b0 : decide (0 ≤ (ji32)) = true := decide_eq_true c33
                                          clear c33
                                          by_cases c34 : (ji32) < (t334.length : Int)
                                          · rw [if_pos c34] at H
                                            have c34b0 : decide ((ji32) < (t334.length : Int)) = true := decide_eq_true c34
                                            clear c34
                                            have H' := Aside0.mk H
                                            clear H
                                            have p339 : 0 ≤ (x11_5 : Int) := of_decide_eq_true (by first | (with_reducible assumption) | assumption)
                                            have q339 : x11_5 < (t334.length : Int) := of_decide_eq_true (by first | (with_reducible assumption) | assumption)
                                            obtain ⟨ad339, e339, hx339_0⟩ := Kd.at_int (Kd.R_reads' HO_10.out).2.2 x11_5 p339 q339
                                            cases e339
                                            replace p339 := eq_true p339
                                            replace q339 := eq_true q339
                                            have p340 : 0 ≤ (x11_5 : Int) := of_decide_eq_true (by first | (with_reducible assumption) | assumption)
                                            have q340 : x11_5 < (t334.length : Int) := of_decide_eq_true (by first | (with_reducible assumption) | assumption)
                                            obtain ⟨ad340, e340, hx340_0⟩ := Kd.at_int (Kd.R_reads' HO_10.out).2.2 x11_5 p340 q340
                                            obtain rfl : ad339 = ad340 := (by injection e340)
                                            replace p340 := eq_true p340
                                            replace q340 := eq_true q340
                                            have p341 : 0 ≤ (x11_5 : Int) := of_decide_eq_true (by first | (with_reducible assumption) | assumption)
                                            have q341 : x11_5 < (t334.length : Int) := of_decide_eq_true (by first | (with_reducible assumption) | assumption)
                                            obtain ⟨ad341, e341, hx341_0⟩ := Kd.at_int (Kd.R_reads' HO_10.out).2.2 x11_5 p341 q341
                                            obtain rfl : ad339 = ad341 := (by injection e341)
                                            replace p341 := eq_true p341
                                            replace q341 := eq_true q341
                                            have p342 : 0 ≤ ((ji32) : Int) := of_decide_eq_true (by first | (with_reducible assumption) | assumption)
                                            have q342 : (ji32) < (t334.length : Int) := of_decide_eq_true (by first | (with_reducible assumption) | assumption)
                                            obtain ⟨ad342, e342, hx342_0⟩ := Kd.at_int (Kd.R_reads' HO_10.out).2.2 (ji32) p342 q342
                                            obtain rfl : ad339 = ad342 := (by injection e342)
                                            replace p342 := eq_true p342
                                            replace q342 := eq_true q342
                                            go_wp2
                                            repeat (go_quiet (fail); try go_wp2)
                                            go_meet
                                            case rel => exact ⟨_, (decide ((rd t334 x11_5) ≤ (rd t334 (ji32)))), (by first | rfl | (simp; done) | (simp only [← hji32] <;> (first | rfl | simp)) | (simp [*]; done)), H', ⟨by have := HJ4.out; have := HK2.out; have := HJ9.out; have := HJ14.out; have := HK5.out; first | omega | exact Nat.le_refl _⟩, ⟨by (with_reducible repeat (first | apply Kd.R_alloc | apply Kd.R_drewN | apply Kd.R_drew)); exact HO_6.out⟩, ⟨by (with_reducible repeat (first | apply Kd.R_alloc | apply Kd.R_drewN | apply Kd.R_drew)); exact HO_10.out⟩, ⟨by repeat (first | (with_reducible first | exact HB.out | apply below_alloc | apply pw_below_drewN | apply below_drew1) | exact HB.out)⟩⟩
                                          · rw [if_neg c34] at H
                                            exact absurd H (by simp)
                                        · rw [if_neg c33] at H
                                          exact absurd H (by simp)
                                      · rw [if_neg c31] at H
                                        have c31b0 : decide (0 < x11_5) = false := decide_eq_false c31
                                        clear c31
                                        have H' := Aside0.mk H
                                        clear H
                                        have p339 : 0 ≤ (x11_5 : Int) := of_decide_eq_true (by first | (with_reducible assumption) | assumption)
                                        have q339 : x11_5 < (t334.length : Int) := of_decide_eq_true (by first | (with_reducible assumption) | assumption)
                                        obtain ⟨ad339, e339, hx339_0⟩ := Kd.at_int (Kd.R_reads' HO_10.out).2.2 x11_5 p339 q339
                                        cases e339
                                        replace p339 := eq_true p339
                                        replace q339 := eq_true q339
                                        have p340 : 0 ≤ (x11_5 : Int) := of_decide_eq_true (by first | (with_reducible assumption) | assumption)
                                        have q340 : x11_5 < (t334.length : Int) := of_decide_eq_true (by first | (with_reducible assumption) | assumption)
                                        obtain ⟨ad340, e340, hx340_0⟩ := Kd.at_int (Kd.R_reads' HO_10.out).2.2 x11_5 p340 q340
                                        obtain rfl : ad339 = ad340 := (by injection e340)
                                        replace p340 := eq_true p340
                                        replace q340 := eq_true q340
                                        go_wp2
                                        repeat (go_quiet (fail); try go_wp2)
                                        go_meet
                                        case rel => exact ⟨_, (false), (by first | rfl | (simp; done) | (simp [*]; done)), H', ⟨by have := HJ4.out; have := HK2.out; have := HJ9.out; have := HJ14.out; have := HK5.out; first | omega | exact Nat.le_refl _⟩, ⟨by (with_reducible repeat (first | apply Kd.R_alloc | apply Kd.R_drewN | apply Kd.R_drew)); exact HO_6.out⟩, ⟨by (with_reducible repeat (first | apply Kd.R_alloc | apply Kd.R_drewN | apply Kd.R_drew)); exact HO_10.out⟩, ⟨by repeat (first | (with_reducible first | exact HB.out | apply below_alloc | apply pw_below_drewN | apply below_drew1) | exact HB.out)⟩⟩
                                · rw [if_neg c28] at H
                                  exact absurd H (by simp)
                              case rest =>
                                clear HC27
                                try clear c1
                                try clear c2
                                try clear p2
                                try clear c3
                                try clear p3
                                try clear q3
                                try clear hx3
                                try clear p6
                                try clear c8
                                try clear c8b0
                                try clear c8b1
                                try clear c9
                                try clear c11
                                try clear c11b0
                                try clear c12
                                try clear c13
                                try clear c18
                                try clear c18b0
                                try clear c19
                                try clear c19b0
                                try clear c20
                                try clear c20b0
                                try clear c20b1
                                try clear c20b2
                                try clear c22
                                try clear c22b0
                                try clear c25
                                try clear c26
                                try clear c26b0
                                try clear c28
                                try clear c28b0
                                try clear c29
                                try clear c29b0
                                try clear c30
                                try clear c30b0
                                try clear c31
                                try clear c31b0
                                try clear c33
                                try clear c33b0
                                try clear p33
                                try clear q33
                                try clear hx33
                                try clear c34
                                try clear c34b0
                                try clear p34
                                try clear q34
                                try clear hx34
                                try clear hx337_0
                                try clear hx338_0
                                try clear hx339_0
                                try clear hx340_0
                                try clear hx341_0
                                try clear hx342_0
                                try clear p2
                                try clear p3
                                try clear p337
                                try clear p338
                                try clear p339
                                try clear p340
                                try clear p341
                                try clear p342
                                try clear p6
                                try clear q3
                                try clear q337
                                try clear q338
                                try clear q339
                                try clear q340
                                try clear q341
                                try clear q342
                                obtain ⟨kq, x108_26, rfl, HA, HJ26, HO_6, HO_10, HB⟩ := hcut
                                cases kq with
                                | zero => exact absurd HA.out (by simp [joistlaw13_PagesMates.j5])
                                | succ kj26 =>
                                  have H := HA.out
                                  clear HA
                                  simp only [joistlaw13_PagesMates.j5] at H
                                  by_cases c35 : x108_26 = true
                                  · subst c35
                                    have H1 : (some false) = some r := by rw [if_pos rfl] at H; exact H
                                    clear H
                                    have H := H1
                                    clear H1
                                    obtain rfl := Option.some.inj H
                                    go_wp2
                                    repeat (go_quiet (fail); try go_wp2)
                                    go_ret
                                    exact ⟨by first | rfl | (simp [errW_none, errW_some] <;> rfl) | (simp [*, errW_none, errW_some] <;> rfl), by repeat (first | (with_reducible first | exact HB.out | apply below_alloc | apply pw_below_drewN | apply below_drew1) | exact HB.out)⟩
                                  · replace c35 := Bool.eq_false_iff.mpr c35
                                    subst c35
                                    have H1 : (if 0 ≤ x11_5 then (if x11_5 < (t334.length : Int) then (if 0 ≤ (rd t334 x11_5) then (if (rd t334 x11_5) < (l1.length : Int) then ((class_Of.f ((rd_T44 l1 (rd t334 x11_5)).f1)).bind fun bt345 => (if 0 ≤ x9_2 then (if x9_2 < (t330.length : Int) then (if (bt345.2 != (decide ((rd t330 x9_2) < 6))) = true then (some false) else (if bt345.2 = true then (if bt345.1 = (rd t330 x9_2) then (joistlaw13_PagesMates.l1 kj26 a0 l1 t329 t330 (wrap64 (x8_2 + (t334.length : Int))) x9_2 t334 (wrap64 (x11_5 + 1))) else (some false)) else (joistlaw13_PagesMates.l1 kj26 a0 l1 t329 t330 (wrap64 (x8_2 + (t334.length : Int))) x9_2 t334 (wrap64 (x11_5 + 1))))) else (none)) else (none))) else (none)) else (none)) else (none)) else (none)) = some r := by rw [if_neg (show ¬ (false = true) by decide)] at H; exact H
                                    clear H
                                    have H := H1
                                    clear H1
                                    by_cases c36 : 0 ≤ x11_5
                                    · rw [if_pos c36] at H
                                      have c36b0 : decide (0 ≤ x11_5) = true := decide_eq_true c36
                                      clear c36
                                      by_cases c37 : x11_5 < (t334.length : Int)
                                      · rw [if_pos c37] at H
                                        have c37b0 : decide (x11_5 < (t334.length : Int)) = true := decide_eq_true c37
                                        clear c37
                                        by_cases c38 : 0 ≤ (rd t334 x11_5)
                                        · rw [if_pos c38] at H
                                          have c38b0 : decide (0 ≤ (rd t334 x11_5)) = true := decide_eq_true c38
                                          clear c38
                                          by_cases c39 : (rd t334 x11_5) < (l1.length : Int)
                                          · rw [if_pos c39] at H
                                            have c39b0 : decide ((rd t334 x11_5) < (l1.length : Int)) = true := decide_eq_true c39
                                            clear c39
                                            replace H := Option.bind_eq_some_iff.mp H
                                            obtain ⟨⟨t345, t346⟩, A400, H⟩ := H
                                            replace H : (if 0 ≤ x9_2 then (if x9_2 < (t330.length : Int) then (if (t346 != (decide ((rd t330 x9_2) < 6))) = true then (some false) else (if t346 = true then (if t345 = (rd t330 x9_2) then (joistlaw13_PagesMates.l1 kj26 a0 l1 t329 t330 (wrap64 (x8_2 + (t334.length : Int))) x9_2 t334 (wrap64 (x11_5 + 1))) else (some false)) else (joistlaw13_PagesMates.l1 kj26 a0 l1 t329 t330 (wrap64 (x8_2 + (t334.length : Int))) x9_2 t334 (wrap64 (x11_5 + 1))))) else (none)) else (none)) = some r := H
                                            have A40 := Aside0.mk A400
                                            clear A400
                                            by_cases c41 : 0 ≤ x9_2
                                            · rw [if_pos c41] at H
                                              have c41b0 : decide (0 ≤ x9_2) = true := decide_eq_true c41
                                              clear c41
                                              by_cases c42 : x9_2 < (t330.length : Int)
                                              · rw [if_pos c42] at H
                                                have c42b0 : decide (x9_2 < (t330.length : Int)) = true := decide_eq_true c42
                                                clear c42
                                                by_cases c43 : (t346 != (decide ((rd t330 x9_2) < 6))) = true
                                                · rw [if_pos c43] at H
                                                  have c43b0 : (t346 != (decide ((rd t330 x9_2) < 6))) = true := c43
                                                  (try (have c43b1 : decide (t346 = (decide ((rd t330 x9_2) < 6))) = false := by simpa using c43))
                                                  (try (have c43b2 : (t346 == (decide ((rd t330 x9_2) < 6))) = false := by simpa using c43))
                                                  (try (have c43b3 : ¬ (t346 = (decide ((rd t330 x9_2) < 6))) := by simpa using c43))
                                                  clear c43
                                                  obtain rfl := Option.some.inj H
                                                  have p343 : 0 ≤ (x11_5 : Int) := of_decide_eq_true (by first | (with_reducible assumption) | assumption)
                                                  have q343 : x11_5 < (t334.length : Int) := of_decide_eq_true (by first | (with_reducible assumption) | assumption)
                                                  obtain ⟨ad343, e343, hx343_0⟩ := Kd.at_int (Kd.R_reads' HO_10.out).2.2 x11_5 p343 q343
                                                  cases e343
                                                  replace p343 := eq_true p343
                                                  replace q343 := eq_true q343
                                                  have p344 : 0 ≤ ((rd t334 x11_5) : Int) := of_decide_eq_true (by first | (with_reducible assumption) | assumption)
                                                  have q344 : (rd t334 x11_5) < (l1.length : Int) := of_decide_eq_true (by first | (with_reducible assumption) | assumption)
                                                  obtain ⟨ad344, e344, hx344_0, hx344_1⟩ := at_T44 HR1.out (rd t334 x11_5) p344 q344
                                                  cases e344
                                                  replace hx344_0 := (HB.out.cell (World.block_lt_of_cell? w _ hx344_0)).trans hx344_0
                                                  replace hx344_1 := (HB.out.cell (World.block_lt_of_cell? w _ hx344_1)).trans hx344_1
                                                  replace p344 := eq_true p344
                                                  replace q344 := eq_true q344
                                                  go_wp2_with (first | (go_at_call 15; (with_reducible refine (class_Of.calls ((rd_T44 l1 (rd t334 x11_5)).f1) t345 t346 _ A40.out).mono ?_); rintro e w44 ⟨rfl, hb⟩; have n0_ := Aside0.mk (Kd.R_below (by (with_reducible repeat (first | apply Kd.R_alloc | apply Kd.R_drewN | apply Kd.R_drew)); exact HO_6.out) hb); have n1_ := Aside0.mk (Kd.R_below (by (with_reducible repeat (first | apply Kd.R_alloc | apply Kd.R_drewN | apply Kd.R_drew)); exact HO_10.out) hb); have n2_ := Aside0.mk (below_step (by repeat (first | (with_reducible first | exact HB.out | apply below_alloc | apply pw_below_drewN | apply below_drew1) | exact HB.out)) hb); clear HO_6; clear HO_10; clear HB; have HO_6 := n0_; have HO_10 := n1_; have HB := n2_; clear n0_ n1_ n2_; (try clear hb); (try clear hb2); (try clear hk); (try clear hi); obtain ⟨Ao45, co45, eo45⟩ := Kd.R_slice HO_6.out; subst eo45; have p347 : 0 ≤ (x9_2 : Int) := of_decide_eq_true (by first | (with_reducible assumption) | assumption); have q347 : x9_2 < (t330.length : Int) := of_decide_eq_true (by first | (with_reducible assumption) | assumption); obtain ⟨ad347, e347, hx347_0⟩ := Kd.at_int (Kd.R_reads' HO_6.out).2.2 x9_2 p347 q347; cases e347; replace p347 := eq_true p347; replace q347 := eq_true q347))
                                                  repeat (go_quiet (first | (go_at_call 15; (with_reducible refine (class_Of.calls ((rd_T44 l1 (rd t334 x11_5)).f1) t345 t346 _ A40.out).mono ?_); rintro e w44 ⟨rfl, hb⟩; have n0_ := Aside0.mk (Kd.R_below (by (with_reducible repeat (first | apply Kd.R_alloc | apply Kd.R_drewN | apply Kd.R_drew)); exact HO_6.out) hb); have n1_ := Aside0.mk (Kd.R_below (by (with_reducible repeat (first | apply Kd.R_alloc | apply Kd.R_drewN | apply Kd.R_drew)); exact HO_10.out) hb); have n2_ := Aside0.mk (below_step (by repeat (first | (with_reducible first | exact HB.out | apply below_alloc | apply pw_below_drewN | apply below_drew1) | exact HB.out)) hb); clear HO_6; clear HO_10; clear HB; have HO_6 := n0_; have HO_10 := n1_; have HB := n2_; clear n0_ n1_ n2_; (try clear hb); (try clear hb2); (try clear hk); (try clear hi); obtain ⟨Ao45, co45, eo45⟩ := Kd.R_slice HO_6.out; subst eo45; have p347 : 0 ≤ (x9_2 : Int) := of_decide_eq_true (by first | (with_reducible assumption) | assumption); have q347 : x9_2 < (t330.length : Int) := of_decide_eq_true (by first | (with_reducible assumption) | assumption); obtain ⟨ad347, e347, hx347_0⟩ := Kd.at_int (Kd.R_reads' HO_6.out).2.2 x9_2 p347 q347; cases e347; replace p347 := eq_true p347; replace q347 := eq_true q347)); try go_wp2_with (first | (go_at_call 15; (with_reducible refine (class_Of.calls ((rd_T44 l1 (rd t334 x11_5)).f1) t345 t346 _ A40.out).mono ?_); rintro e w44 ⟨rfl, hb⟩; have n0_ := Aside0.mk (Kd.R_below (by (with_reducible repeat (first | apply Kd.R_alloc | apply Kd.R_drewN | apply Kd.R_drew)); exact HO_6.out) hb); have n1_ := Aside0.mk (Kd.R_below (by (with_reducible repeat (first | apply Kd.R_alloc | apply Kd.R_drewN | apply Kd.R_drew)); exact HO_10.out) hb); have n2_ := Aside0.mk (below_step (by repeat (first | (with_reducible first | exact HB.out | apply below_alloc | apply pw_below_drewN | apply below_drew1) | exact HB.out)) hb); clear HO_6; clear HO_10; clear HB; have HO_6 := n0_; have HO_10 := n1_; have HB := n2_; clear n0_ n1_ n2_; (try clear hb); (try clear hb2); (try clear hk); (try clear hi); obtain ⟨Ao45, co45, eo45⟩ := Kd.R_slice HO_6.out; subst eo45; have p347 : 0 ≤ (x9_2 : Int) := of_decide_eq_true (by first | (with_reducible assumption) | assumption); have q347 : x9_2 < (t330.length : Int) := of_decide_eq_true (by first | (with_reducible assumption) | assumption); obtain ⟨ad347, e347, hx347_0⟩ := Kd.at_int (Kd.R_reads' HO_6.out).2.2 x9_2 p347 q347; cases e347; replace p347 := eq_true p347; replace q347 := eq_true q347)))
                                                  go_ret
                                                  exact ⟨by first | rfl | (simp [errW_none, errW_some] <;> rfl) | (simp [*, errW_none, errW_some] <;> rfl), by repeat (first | (with_reducible first | exact HB.out | apply below_alloc | apply pw_below_drewN | apply below_drew1) | exact HB.out)⟩
                                                · rw [if_neg c43] at H
                                                  have c43b0 : (t346 != (decide ((rd t330 x9_2) < 6))) = false := by simpa using c43
                                                  (try (have c43b1 : decide (t346 = (decide ((rd t330 x9_2) < 6))) = true := by simpa using c43))
                                                  (try (have c43b2 : (t346 == (decide ((rd t330 x9_2) < 6))) = true := by simpa using c43))
                                                  clear c43
                                                  by_cases c46 : t346 = true
                                                  · subst c46
                                                    have H1 : (if t345 = (rd t330 x9_2) then (joistlaw13_PagesMates.l1 kj26 a0 l1 t329 t330 (wrap64 (x8_2 + (t334.length : Int))) x9_2 t334 (wrap64 (x11_5 + 1))) else (some false)) = some r := by rw [if_pos rfl] at H; exact H
                                                    clear H
                                                    have H := H1
                                                    clear H1
                                                    by_cases c47 : t345 = (rd t330 x9_2)
                                                    · rw [if_pos c47] at H
                                                      have c47b0 : (t345 == (rd t330 x9_2)) = true := beq_iff_eq.mpr c47
                                                      have c47b1 : (t345 != (rd t330 x9_2)) = false := bne_eq_false_iff_eq.mpr c47
                                                      clear c47
                                                      have H' := Aside0.mk H
                                                      clear H
                                                      have p343 : 0 ≤ (x11_5 : Int) := of_decide_eq_true (by first | (with_reducible assumption) | assumption)
                                                      have q343 : x11_5 < (t334.length : Int) := of_decide_eq_true (by first | (with_reducible assumption) | assumption)
                                                      obtain ⟨ad343, e343, hx343_0⟩ := Kd.at_int (Kd.R_reads' HO_10.out).2.2 x11_5 p343 q343
                                                      cases e343
                                                      replace p343 := eq_true p343
                                                      replace q343 := eq_true q343
                                                      have p344 : 0 ≤ ((rd t334 x11_5) : Int) := of_decide_eq_true (by first | (with_reducible assumption) | assumption)
                                                      have q344 : (rd t334 x11_5) < (l1.length : Int) := of_decide_eq_true (by first | (with_reducible assumption) | assumption)
                                                      obtain ⟨ad344, e344, hx344_0, hx344_1⟩ := at_T44 HR1.out (rd t334 x11_5) p344 q344
                                                      cases e344
                                                      replace hx344_0 := (HB.out.cell (World.block_lt_of_cell? w _ hx344_0)).trans hx344_0
                                                      replace hx344_1 := (HB.out.cell (World.block_lt_of_cell? w _ hx344_1)).trans hx344_1
                                                      replace p344 := eq_true p344
                                                      replace q344 := eq_true q344
                                                      go_wp2_with (first | (go_at_call 15; (with_reducible refine (class_Of.calls ((rd_T44 l1 (rd t334 x11_5)).f1) t345 true _ A40.out).mono ?_); rintro e w48 ⟨rfl, hb⟩; have n0_ := Aside0.mk (Kd.R_below (by (with_reducible repeat (first | apply Kd.R_alloc | apply Kd.R_drewN | apply Kd.R_drew)); exact HO_6.out) hb); have n1_ := Aside0.mk (Kd.R_below (by (with_reducible repeat (first | apply Kd.R_alloc | apply Kd.R_drewN | apply Kd.R_drew)); exact HO_10.out) hb); have n2_ := Aside0.mk (below_step (by repeat (first | (with_reducible first | exact HB.out | apply below_alloc | apply pw_below_drewN | apply below_drew1) | exact HB.out)) hb); clear HO_6; clear HO_10; clear HB; have HO_6 := n0_; have HO_10 := n1_; have HB := n2_; clear n0_ n1_ n2_; (try clear hb); (try clear hb2); (try clear hk); (try clear hi); obtain ⟨Ao49, co49, eo49⟩ := Kd.R_slice HO_6.out; subst eo49; have p347 : 0 ≤ (x9_2 : Int) := of_decide_eq_true (by first | (with_reducible assumption) | assumption); have q347 : x9_2 < (t330.length : Int) := of_decide_eq_true (by first | (with_reducible assumption) | assumption); obtain ⟨ad347, e347, hx347_0⟩ := Kd.at_int (Kd.R_reads' HO_6.out).2.2 x9_2 p347 q347; cases e347; replace p347 := eq_true p347; replace q347 := eq_true q347; have p348 : 0 ≤ (x9_2 : Int) := of_decide_eq_true (by first | (with_reducible assumption) | assumption); have q348 : x9_2 < (t330.length : Int) := of_decide_eq_true (by first | (with_reducible assumption) | assumption); obtain ⟨ad348, e348, hx348_0⟩ := Kd.at_int (Kd.R_reads' HO_6.out).2.2 x9_2 p348 q348; obtain rfl : ad347 = ad348 := (by injection e348); replace p348 := eq_true p348; replace q348 := eq_true q348))
                                                      repeat (go_quiet (first | (go_at_call 15; (with_reducible refine (class_Of.calls ((rd_T44 l1 (rd t334 x11_5)).f1) t345 true _ A40.out).mono ?_); rintro e w48 ⟨rfl, hb⟩; have n0_ := Aside0.mk (Kd.R_below (by (with_reducible repeat (first | apply Kd.R_alloc | apply Kd.R_drewN | apply Kd.R_drew)); exact HO_6.out) hb); have n1_ := Aside0.mk (Kd.R_below (by (with_reducible repeat (first | apply Kd.R_alloc | apply Kd.R_drewN | apply Kd.R_drew)); exact HO_10.out) hb); have n2_ := Aside0.mk (below_step (by repeat (first | (with_reducible first | exact HB.out | apply below_alloc | apply pw_below_drewN | apply below_drew1) | exact HB.out)) hb); clear HO_6; clear HO_10; clear HB; have HO_6 := n0_; have HO_10 := n1_; have HB := n2_; clear n0_ n1_ n2_; (try clear hb); (try clear hb2); (try clear hk); (try clear hi); obtain ⟨Ao49, co49, eo49⟩ := Kd.R_slice HO_6.out; subst eo49; have p347 : 0 ≤ (x9_2 : Int) := of_decide_eq_true (by first | (with_reducible assumption) | assumption); have q347 : x9_2 < (t330.length : Int) := of_decide_eq_true (by first | (with_reducible assumption) | assumption); obtain ⟨ad347, e347, hx347_0⟩ := Kd.at_int (Kd.R_reads' HO_6.out).2.2 x9_2 p347 q347; cases e347; replace p347 := eq_true p347; replace q347 := eq_true q347; have p348 : 0 ≤ (x9_2 : Int) := of_decide_eq_true (by first | (with_reducible assumption) | assumption); have q348 : x9_2 < (t330.length : Int) := of_decide_eq_true (by first | (with_reducible assumption) | assumption); obtain ⟨ad348, e348, hx348_0⟩ := Kd.at_int (Kd.R_reads' HO_6.out).2.2 x9_2 p348 q348; obtain rfl : ad347 = ad348 := (by injection e348); replace p348 := eq_true p348; replace q348 := eq_true q348)); try go_wp2_with (first | (go_at_call 15; (with_reducible refine (class_Of.calls ((rd_T44 l1 (rd t334 x11_5)).f1) t345 true _ A40.out).mono ?_); rintro e w48 ⟨rfl, hb⟩; have n0_ := Aside0.mk (Kd.R_below (by (with_reducible repeat (first | apply Kd.R_alloc | apply Kd.R_drewN | apply Kd.R_drew)); exact HO_6.out) hb); have n1_ := Aside0.mk (Kd.R_below (by (with_reducible repeat (first | apply Kd.R_alloc | apply Kd.R_drewN | apply Kd.R_drew)); exact HO_10.out) hb); have n2_ := Aside0.mk (below_step (by repeat (first | (with_reducible first | exact HB.out | apply below_alloc | apply pw_below_drewN | apply below_drew1) | exact HB.out)) hb); clear HO_6; clear HO_10; clear HB; have HO_6 := n0_; have HO_10 := n1_; have HB := n2_; clear n0_ n1_ n2_; (try clear hb); (try clear hb2); (try clear hk); (try clear hi); obtain ⟨Ao49, co49, eo49⟩ := Kd.R_slice HO_6.out; subst eo49; have p347 : 0 ≤ (x9_2 : Int) := of_decide_eq_true (by first | (with_reducible assumption) | assumption); have q347 : x9_2 < (t330.length : Int) := of_decide_eq_true (by first | (with_reducible assumption) | assumption); obtain ⟨ad347, e347, hx347_0⟩ := Kd.at_int (Kd.R_reads' HO_6.out).2.2 x9_2 p347 q347; cases e347; replace p347 := eq_true p347; replace q347 := eq_true q347; have p348 : 0 ≤ (x9_2 : Int) := of_decide_eq_true (by first | (with_reducible assumption) | assumption); have q348 : x9_2 < (t330.length : Int) := of_decide_eq_true (by first | (with_reducible assumption) | assumption); obtain ⟨ad348, e348, hx348_0⟩ := Kd.at_int (Kd.R_reads' HO_6.out).2.2 x9_2 p348 q348; obtain rfl : ad347 = ad348 := (by injection e348); replace p348 := eq_true p348; replace q348 := eq_true q348)))
                                                      go_roundg kj26
                                                      case measure => have := HJ4.out; have := HK2.out; have := HJ9.out; have := HJ14.out; have := HK5.out; have := HJ26.out; omega
                                                      case rel => exact ⟨(wrap64 (x11_5 + 1)), (by first | rfl | (simp; done) | (simp [*]; done)), H', ⟨by have := HJ4.out; have := HK2.out; have := HJ9.out; have := HJ14.out; have := HK5.out; have := HJ26.out; omega⟩, ⟨by (with_reducible repeat (first | apply Kd.R_alloc | apply Kd.R_drewN | apply Kd.R_drew)); exact HO_6.out⟩, ⟨by (with_reducible repeat (first | apply Kd.R_alloc | apply Kd.R_drewN | apply Kd.R_drew)); exact HO_10.out⟩, ⟨by repeat (first | (with_reducible first | exact HB.out | apply below_alloc | apply pw_below_drewN | apply below_drew1) | exact HB.out)⟩⟩
                                                    · rw [if_neg c47] at H
                                                      have c47b0 : (t345 == (rd t330 x9_2)) = false := beq_eq_false_iff_ne.mpr c47
                                                      have c47b1 : (t345 != (rd t330 x9_2)) = true := bne_iff_ne.mpr c47
                                                      obtain rfl := Option.some.inj H
                                                      have p343 : 0 ≤ (x11_5 : Int) := of_decide_eq_true (by first | (with_reducible assumption) | assumption)
                                                      have q343 : x11_5 < (t334.length : Int) := of_decide_eq_true (by first | (with_reducible assumption) | assumption)
                                                      obtain ⟨ad343, e343, hx343_0⟩ := Kd.at_int (Kd.R_reads' HO_10.out).2.2 x11_5 p343 q343
                                                      cases e343
                                                      replace p343 := eq_true p343
                                                      replace q343 := eq_true q343
                                                      have p344 : 0 ≤ ((rd t334 x11_5) : Int) := of_decide_eq_true (by first | (with_reducible assumption) | assumption)
                                                      have q344 : (rd t334 x11_5) < (l1.length : Int) := of_decide_eq_true (by first | (with_reducible assumption) | assumption)
                                                      obtain ⟨ad344, e344, hx344_0, hx344_1⟩ := at_T44 HR1.out (rd t334 x11_5) p344 q344
                                                      cases e344
                                                      replace hx344_0 := (HB.out.cell (World.block_lt_of_cell? w _ hx344_0)).trans hx344_0
                                                      replace hx344_1 := (HB.out.cell (World.block_lt_of_cell? w _ hx344_1)).trans hx344_1
                                                      replace p344 := eq_true p344
                                                      replace q344 := eq_true q344
                                                      go_wp2_with (first | (go_at_call 15; (with_reducible refine (class_Of.calls ((rd_T44 l1 (rd t334 x11_5)).f1) t345 true _ A40.out).mono ?_); rintro e w50 ⟨rfl, hb⟩; have n0_ := Aside0.mk (Kd.R_below (by (with_reducible repeat (first | apply Kd.R_alloc | apply Kd.R_drewN | apply Kd.R_drew)); exact HO_6.out) hb); have n1_ := Aside0.mk (Kd.R_below (by (with_reducible repeat (first | apply Kd.R_alloc | apply Kd.R_drewN | apply Kd.R_drew)); exact HO_10.out) hb); have n2_ := Aside0.mk (below_step (by repeat (first | (with_reducible first | exact HB.out | apply below_alloc | apply pw_below_drewN | apply below_drew1) | exact HB.out)) hb); clear HO_6; clear HO_10; clear HB; have HO_6 := n0_; have HO_10 := n1_; have HB := n2_; clear n0_ n1_ n2_; (try clear hb); (try clear hb2); (try clear hk); (try clear hi); obtain ⟨Ao51, co51, eo51⟩ := Kd.R_slice HO_6.out; subst eo51; have p347 : 0 ≤ (x9_2 : Int) := of_decide_eq_true (by first | (with_reducible assumption) | assumption); have q347 : x9_2 < (t330.length : Int) := of_decide_eq_true (by first | (with_reducible assumption) | assumption); obtain ⟨ad347, e347, hx347_0⟩ := Kd.at_int (Kd.R_reads' HO_6.out).2.2 x9_2 p347 q347; cases e347; replace p347 := eq_true p347; replace q347 := eq_true q347; have p348 : 0 ≤ (x9_2 : Int) := of_decide_eq_true (by first | (with_reducible assumption) | assumption); have q348 : x9_2 < (t330.length : Int) := of_decide_eq_true (by first | (with_reducible assumption) | assumption); obtain ⟨ad348, e348, hx348_0⟩ := Kd.at_int (Kd.R_reads' HO_6.out).2.2 x9_2 p348 q348; obtain rfl : ad347 = ad348 := (by injection e348); replace p348 := eq_true p348; replace q348 := eq_true q348))
                                                      repeat (go_quiet (first | (go_at_call 15; (with_reducible refine (class_Of.calls ((rd_T44 l1 (rd t334 x11_5)).f1) t345 true _ A40.out).mono ?_); rintro e w50 ⟨rfl, hb⟩; have n0_ := Aside0.mk (Kd.R_below (by (with_reducible repeat (first | apply Kd.R_alloc | apply Kd.R_drewN | apply Kd.R_drew)); exact HO_6.out) hb); have n1_ := Aside0.mk (Kd.R_below (by (with_reducible repeat (first | apply Kd.R_alloc | apply Kd.R_drewN | apply Kd.R_drew)); exact HO_10.out) hb); have n2_ := Aside0.mk (below_step (by repeat (first | (with_reducible first | exact HB.out | apply below_alloc | apply pw_below_drewN | apply below_drew1) | exact HB.out)) hb); clear HO_6; clear HO_10; clear HB; have HO_6 := n0_; have HO_10 := n1_; have HB := n2_; clear n0_ n1_ n2_; (try clear hb); (try clear hb2); (try clear hk); (try clear hi); obtain ⟨Ao51, co51, eo51⟩ := Kd.R_slice HO_6.out; subst eo51; have p347 : 0 ≤ (x9_2 : Int) := of_decide_eq_true (by first | (with_reducible assumption) | assumption); have q347 : x9_2 < (t330.length : Int) := of_decide_eq_true (by first | (with_reducible assumption) | assumption); obtain ⟨ad347, e347, hx347_0⟩ := Kd.at_int (Kd.R_reads' HO_6.out).2.2 x9_2 p347 q347; cases e347; replace p347 := eq_true p347; replace q347 := eq_true q347; have p348 : 0 ≤ (x9_2 : Int) := of_decide_eq_true (by first | (with_reducible assumption) | assumption); have q348 : x9_2 < (t330.length : Int) := of_decide_eq_true (by first | (with_reducible assumption) | assumption); obtain ⟨ad348, e348, hx348_0⟩ := Kd.at_int (Kd.R_reads' HO_6.out).2.2 x9_2 p348 q348; obtain rfl : ad347 = ad348 := (by injection e348); replace p348 := eq_true p348; replace q348 := eq_true q348)); try go_wp2_with (first | (go_at_call 15; (with_reducible refine (class_Of.calls ((rd_T44 l1 (rd t334 x11_5)).f1) t345 true _ A40.out).mono ?_); rintro e w50 ⟨rfl, hb⟩; have n0_ := Aside0.mk (Kd.R_below (by (with_reducible repeat (first | apply Kd.R_alloc | apply Kd.R_drewN | apply Kd.R_drew)); exact HO_6.out) hb); have n1_ := Aside0.mk (Kd.R_below (by (with_reducible repeat (first | apply Kd.R_alloc | apply Kd.R_drewN | apply Kd.R_drew)); exact HO_10.out) hb); have n2_ := Aside0.mk (below_step (by repeat (first | (with_reducible first | exact HB.out | apply below_alloc | apply pw_below_drewN | apply below_drew1) | exact HB.out)) hb); clear HO_6; clear HO_10; clear HB; have HO_6 := n0_; have HO_10 := n1_; have HB := n2_; clear n0_ n1_ n2_; (try clear hb); (try clear hb2); (try clear hk); (try clear hi); obtain ⟨Ao51, co51, eo51⟩ := Kd.R_slice HO_6.out; subst eo51; have p347 : 0 ≤ (x9_2 : Int) := of_decide_eq_true (by first | (with_reducible assumption) | assumption); have q347 : x9_2 < (t330.length : Int) := of_decide_eq_true (by first | (with_reducible assumption) | assumption); obtain ⟨ad347, e347, hx347_0⟩ := Kd.at_int (Kd.R_reads' HO_6.out).2.2 x9_2 p347 q347; cases e347; replace p347 := eq_true p347; replace q347 := eq_true q347; have p348 : 0 ≤ (x9_2 : Int) := of_decide_eq_true (by first | (with_reducible assumption) | assumption); have q348 : x9_2 < (t330.length : Int) := of_decide_eq_true (by first | (with_reducible assumption) | assumption); obtain ⟨ad348, e348, hx348_0⟩ := Kd.at_int (Kd.R_reads' HO_6.out).2.2 x9_2 p348 q348; obtain rfl : ad347 = ad348 := (by injection e348); replace p348 := eq_true p348; replace q348 := eq_true q348)))
                                                      go_ret
                                                      exact ⟨by first | rfl | (simp [errW_none, errW_some] <;> rfl) | (simp [*, errW_none, errW_some] <;> rfl), by repeat (first | (with_reducible first | exact HB.out | apply below_alloc | apply pw_below_drewN | apply below_drew1) | exact HB.out)⟩
                                                  · replace c46 := Bool.eq_false_iff.mpr c46
                                                    subst c46
                                                    have H1 : (joistlaw13_PagesMates.l1 kj26 a0 l1 t329 t330 (wrap64 (x8_2 + (t334.length : Int))) x9_2 t334 (wrap64 (x11_5 + 1))) = some r := by rw [if_neg (show ¬ (false = true) by decide)] at H; exact H
                                                    clear H
                                                    have H := H1
                                                    clear H1
                                                    have H' := Aside0.mk H
                                                    clear H
                                                    have p343 : 0 ≤ (x11_5 : Int) := of_decide_eq_true (by first | (with_reducible assumption) | assumption)
                                                    have q343 : x11_5 < (t334.length : Int) := of_decide_eq_true (by first | (with_reducible assumption) | assumption)
                                                    obtain ⟨ad343, e343, hx343_0⟩ := Kd.at_int (Kd.R_reads' HO_10.out).2.2 x11_5 p343 q343
                                                    cases e343
                                                    replace p343 := eq_true p343
                                                    replace q343 := eq_true q343
                                                    have p344 : 0 ≤ ((rd t334 x11_5) : Int) := of_decide_eq_true (by first | (with_reducible assumption) | assumption)
                                                    have q344 : (rd t334 x11_5) < (l1.length : Int) := of_decide_eq_true (by first | (with_reducible assumption) | assumption)
                                                    obtain ⟨ad344, e344, hx344_0, hx344_1⟩ := at_T44 HR1.out (rd t334 x11_5) p344 q344
                                                    cases e344
                                                    replace hx344_0 := (HB.out.cell (World.block_lt_of_cell? w _ hx344_0)).trans hx344_0
                                                    replace hx344_1 := (HB.out.cell (World.block_lt_of_cell? w _ hx344_1)).trans hx344_1
                                                    replace p344 := eq_true p344
                                                    replace q344 := eq_true q344
                                                    go_wp2_with (first | (go_at_call 15; (with_reducible refine (class_Of.calls ((rd_T44 l1 (rd t334 x11_5)).f1) t345 false _ A40.out).mono ?_); rintro e w52 ⟨rfl, hb⟩; have n0_ := Aside0.mk (Kd.R_below (by (with_reducible repeat (first | apply Kd.R_alloc | apply Kd.R_drewN | apply Kd.R_drew)); exact HO_6.out) hb); have n1_ := Aside0.mk (Kd.R_below (by (with_reducible repeat (first | apply Kd.R_alloc | apply Kd.R_drewN | apply Kd.R_drew)); exact HO_10.out) hb); have n2_ := Aside0.mk (below_step (by repeat (first | (with_reducible first | exact HB.out | apply below_alloc | apply pw_below_drewN | apply below_drew1) | exact HB.out)) hb); clear HO_6; clear HO_10; clear HB; have HO_6 := n0_; have HO_10 := n1_; have HB := n2_; clear n0_ n1_ n2_; (try clear hb); (try clear hb2); (try clear hk); (try clear hi); obtain ⟨Ao53, co53, eo53⟩ := Kd.R_slice HO_6.out; subst eo53; have p347 : 0 ≤ (x9_2 : Int) := of_decide_eq_true (by first | (with_reducible assumption) | assumption); have q347 : x9_2 < (t330.length : Int) := of_decide_eq_true (by first | (with_reducible assumption) | assumption); obtain ⟨ad347, e347, hx347_0⟩ := Kd.at_int (Kd.R_reads' HO_6.out).2.2 x9_2 p347 q347; cases e347; replace p347 := eq_true p347; replace q347 := eq_true q347))
                                                    repeat (go_quiet (first | (go_at_call 15; (with_reducible refine (class_Of.calls ((rd_T44 l1 (rd t334 x11_5)).f1) t345 false _ A40.out).mono ?_); rintro e w52 ⟨rfl, hb⟩; have n0_ := Aside0.mk (Kd.R_below (by (with_reducible repeat (first | apply Kd.R_alloc | apply Kd.R_drewN | apply Kd.R_drew)); exact HO_6.out) hb); have n1_ := Aside0.mk (Kd.R_below (by (with_reducible repeat (first | apply Kd.R_alloc | apply Kd.R_drewN | apply Kd.R_drew)); exact HO_10.out) hb); have n2_ := Aside0.mk (below_step (by repeat (first | (with_reducible first | exact HB.out | apply below_alloc | apply pw_below_drewN | apply below_drew1) | exact HB.out)) hb); clear HO_6; clear HO_10; clear HB; have HO_6 := n0_; have HO_10 := n1_; have HB := n2_; clear n0_ n1_ n2_; (try clear hb); (try clear hb2); (try clear hk); (try clear hi); obtain ⟨Ao53, co53, eo53⟩ := Kd.R_slice HO_6.out; subst eo53; have p347 : 0 ≤ (x9_2 : Int) := of_decide_eq_true (by first | (with_reducible assumption) | assumption); have q347 : x9_2 < (t330.length : Int) := of_decide_eq_true (by first | (with_reducible assumption) | assumption); obtain ⟨ad347, e347, hx347_0⟩ := Kd.at_int (Kd.R_reads' HO_6.out).2.2 x9_2 p347 q347; cases e347; replace p347 := eq_true p347; replace q347 := eq_true q347)); try go_wp2_with (first | (go_at_call 15; (with_reducible refine (class_Of.calls ((rd_T44 l1 (rd t334 x11_5)).f1) t345 false _ A40.out).mono ?_); rintro e w52 ⟨rfl, hb⟩; have n0_ := Aside0.mk (Kd.R_below (by (with_reducible repeat (first | apply Kd.R_alloc | apply Kd.R_drewN | apply Kd.R_drew)); exact HO_6.out) hb); have n1_ := Aside0.mk (Kd.R_below (by (with_reducible repeat (first | apply Kd.R_alloc | apply Kd.R_drewN | apply Kd.R_drew)); exact HO_10.out) hb); have n2_ := Aside0.mk (below_step (by repeat (first | (with_reducible first | exact HB.out | apply below_alloc | apply pw_below_drewN | apply below_drew1) | exact HB.out)) hb); clear HO_6; clear HO_10; clear HB; have HO_6 := n0_; have HO_10 := n1_; have HB := n2_; clear n0_ n1_ n2_; (try clear hb); (try clear hb2); (try clear hk); (try clear hi); obtain ⟨Ao53, co53, eo53⟩ := Kd.R_slice HO_6.out; subst eo53; have p347 : 0 ≤ (x9_2 : Int) := of_decide_eq_true (by first | (with_reducible assumption) | assumption); have q347 : x9_2 < (t330.length : Int) := of_decide_eq_true (by first | (with_reducible assumption) | assumption); obtain ⟨ad347, e347, hx347_0⟩ := Kd.at_int (Kd.R_reads' HO_6.out).2.2 x9_2 p347 q347; cases e347; replace p347 := eq_true p347; replace q347 := eq_true q347)))
                                                    go_roundg kj26
                                                    case measure => have := HJ4.out; have := HK2.out; have := HJ9.out; have := HJ14.out; have := HK5.out; have := HJ26.out; omega
                                                    case rel => exact ⟨(wrap64 (x11_5 + 1)), (by first | rfl | (simp; done) | (simp [*]; done)), H', ⟨by have := HJ4.out; have := HK2.out; have := HJ9.out; have := HJ14.out; have := HK5.out; have := HJ26.out; omega⟩, ⟨by (with_reducible repeat (first | apply Kd.R_alloc | apply Kd.R_drewN | apply Kd.R_drew)); exact HO_6.out⟩, ⟨by (with_reducible repeat (first | apply Kd.R_alloc | apply Kd.R_drewN | apply Kd.R_drew)); exact HO_10.out⟩, ⟨by repeat (first | (with_reducible first | exact HB.out | apply below_alloc | apply pw_below_drewN | apply below_drew1) | exact HB.out)⟩⟩
                                              · rw [if_neg c42] at H
                                                exact absurd H (by simp)
                                            · rw [if_neg c41] at H
                                              exact absurd H (by simp)
                                          · rw [if_neg c39] at H
                                            exact absurd H (by simp)
                                        · rw [if_neg c38] at H
                                          exact absurd H (by simp)
                                      · rw [if_neg c37] at H
                                        exact absurd H (by simp)
                                    · rw [if_neg c36] at H
                                      exact absurd H (by simp)
                            · rw [if_neg c26] at H
                              have c26b0 : decide (x11_5 < (t334.length : Int)) = false := decide_eq_false c26
                              clear c26
                              have H' := Aside0.mk H
                              clear H
                              go_wp2
                              repeat (go_quiet (fail); try go_wp2)
                              go_roundg k5
                              case measure => have := HJ4.out; have := HK2.out; have := HJ9.out; have := HJ14.out; have := HK5.out; omega
                              case rel => exact ⟨((wrap64 (x8_2 + (t334.length : Int)))), (wrap64 (x9_2 + 1)), (by first | rfl | (simp; done) | (simp [*]; done)), (by first | rfl | (simp; done) | (simp [*]; done)), H', ⟨by have := HJ4.out; have := HK2.out; have := HJ9.out; have := HJ14.out; have := HK5.out; omega⟩, ⟨by (with_reducible repeat (first | apply Kd.R_alloc | apply Kd.R_drewN | apply Kd.R_drew)); exact Kd.R_mono HO_6.out (fun _ hk => trivial)⟩, ⟨by repeat (first | (with_reducible first | exact HB.out | apply below_alloc | apply pw_below_drewN | apply below_drew1) | exact HB.out)⟩⟩
                · replace c13 := Bool.eq_false_iff.mpr c13
                  subst c13
                  have H1 : (joistlaw13_PagesMates.l2 kj9 a0 l1 t329 x8_2 0 0) = some r := by rw [if_neg (show ¬ (false = true) by decide)] at H; exact H
                  clear H
                  have H := H1
                  clear H1
                  have H' := Aside0.mk H
                  clear H
                  go_wp2
                  repeat (go_quiet (fail); try go_wp2)
                  go_loopg [14, 15] kj9 (fun kq v14 v15 w' => ∃ (x14_4 : Int) (x15_4 : Int), v14 = .int .i64 x14_4 ∧ v15 = .int .i64 x15_4 ∧ Aside0 (joistlaw13_PagesMates.l2 kq a0 l1 t329 x8_2 x14_4 x15_4 = some r) ∧ Aside0 (kq ≤ kj9) ∧ Aside0 (Below w.heap.size w w'))
                  case atStart => exact ⟨(0), (0), (by first | rfl | (simp; done) | (simp [*]; done)), (by first | rfl | (simp; done) | (simp [*]; done)), H', ⟨Nat.le_refl _⟩, ⟨by repeat (first | (with_reducible first | exact HB.out | apply below_alloc | apply pw_below_drewN | apply below_drew1) | exact HB.out)⟩⟩
                  case round =>
                    clear H'
                    try clear c1
                    try clear c2
                    try clear p2
                    try clear c3
                    try clear p3
                    try clear q3
                    try clear hx3
                    try clear c4
                    try clear p6
                    try clear c8
                    try clear c8b0
                    try clear c8b1
                    try clear c9
                    try clear c11
                    try clear c11b0
                    try clear c12
                    try clear c13
                    try clear c18
                    try clear c18b0
                    try clear c19
                    try clear c19b0
                    try clear c20
                    try clear c20b0
                    try clear c20b1
                    try clear c20b2
                    try clear c22
                    try clear c22b0
                    try clear c25
                    try clear c26
                    try clear c26b0
                    try clear c28
                    try clear c28b0
                    try clear c29
                    try clear c29b0
                    try clear c30
                    try clear c30b0
                    try clear c31
                    try clear c31b0
                    try clear c33
                    try clear c33b0
                    try clear p33
                    try clear q33
                    try clear hx33
                    try clear c34
                    try clear c34b0
                    try clear p34
                    try clear q34
                    try clear hx34
                    try clear c35
                    try clear c36
                    try clear c36b0
                    try clear c37
                    try clear c37b0
                    try clear c38
                    try clear c38b0
                    try clear c39
                    try clear c39b0
                    try clear c41
                    try clear c41b0
                    try clear c42
                    try clear c42b0
                    try clear c43
                    try clear c43b0
                    try clear c43b1
                    try clear c43b2
                    try clear c46
                    try clear c47
                    try clear c47b0
                    try clear c47b1
                    try clear hx337_0
                    try clear hx338_0
                    try clear hx339_0
                    try clear hx340_0
                    try clear hx341_0
                    try clear hx342_0
                    try clear hx343_0
                    try clear hx344_0
                    try clear hx344_1
                    try clear hx347_0
                    try clear hx348_0
                    try clear p2
                    try clear p3
                    try clear p33
                    try clear p337
                    try clear p338
                    try clear p339
                    try clear p34
                    try clear p340
                    try clear p341
                    try clear p342
                    try clear p343
                    try clear p344
                    try clear p347
                    try clear p348
                    try clear p6
                    try clear q3
                    try clear q33
                    try clear q337
                    try clear q338
                    try clear q339
                    try clear q34
                    try clear q340
                    try clear q341
                    try clear q342
                    try clear q343
                    try clear q344
                    try clear q347
                    try clear q348
                    obtain ⟨x14_4, x15_4, rfl, rfl, HA, HK4, HB⟩ := hrel
                    cases gk with
                    | zero => exact absurd HA.out (by simp [joistlaw13_PagesMates.l2])
                    | succ k4 =>
                      have H := HA.out
                      clear HA
                      simp only [joistlaw13_PagesMates.l2] at H
                      by_cases c54 : x15_4 < (l1.length : Int)
                      · rw [if_pos c54] at H
                        have c54b0 : decide (x15_4 < (l1.length : Int)) = true := decide_eq_true c54
                        clear c54
                        by_cases c55 : 0 ≤ x15_4
                        · rw [if_pos c55] at H
                          have c55b0 : decide (0 ≤ x15_4) = true := decide_eq_true c55
                          clear c55
                          replace H := Option.bind_eq_some_iff.mp H
                          obtain ⟨⟨t350, t351⟩, A560, H⟩ := H
                          replace H : (if t351 = 0 then (joistlaw13_PagesMates.l2 k4 a0 l1 t329 x8_2 (wrap64 (x14_4 + t350)) (wrap64 (x15_4 + 1))) else (joistlaw13_PagesMates.l2 k4 a0 l1 t329 x8_2 (wrap64 (x14_4 + 1)) (wrap64 (x15_4 + 1)))) = some r := H
                          have A56 := Aside0.mk A560
                          clear A560
                          by_cases c57 : t351 = 0
                          · rw [if_pos c57] at H
                            have c57b0 : (t351 == 0) = true := beq_iff_eq.mpr c57
                            have c57b1 : (t351 != 0) = false := bne_eq_false_iff_eq.mpr c57
                            clear c57
                            have H' := Aside0.mk H
                            clear H
                            have p349 : 0 ≤ (x15_4 : Int) := of_decide_eq_true (by first | (with_reducible assumption) | assumption)
                            have q349 : x15_4 < (l1.length : Int) := of_decide_eq_true (by first | (with_reducible assumption) | assumption)
                            obtain ⟨ad349, e349, hx349_0, hx349_1⟩ := at_T44 HR1.out x15_4 p349 q349
                            cases e349
                            replace hx349_0 := (HB.out.cell (World.block_lt_of_cell? w _ hx349_0)).trans hx349_0
                            replace hx349_1 := (HB.out.cell (World.block_lt_of_cell? w _ hx349_1)).trans hx349_1
                            replace p349 := eq_true p349
                            replace q349 := eq_true q349
                            go_wp2_with (first | (go_at_call 21; (with_reducible refine (class_Pages.calls ((rd_T44 l1 x15_4).f1) t350 t351 _ A56.out).mono ?_); rintro e w58 ⟨rfl, hb⟩; have n0_ := Aside0.mk (below_step (by repeat (first | (with_reducible first | exact HB.out | apply below_alloc | apply pw_below_drewN | apply below_drew1) | exact HB.out)) hb); clear HB; have HB := n0_; clear n0_; (try clear hb); (try clear hb2); (try clear hk); (try clear hi)))
                            repeat (go_quiet (first | (go_at_call 21; (with_reducible refine (class_Pages.calls ((rd_T44 l1 x15_4).f1) t350 t351 _ A56.out).mono ?_); rintro e w58 ⟨rfl, hb⟩; have n0_ := Aside0.mk (below_step (by repeat (first | (with_reducible first | exact HB.out | apply below_alloc | apply pw_below_drewN | apply below_drew1) | exact HB.out)) hb); clear HB; have HB := n0_; clear n0_; (try clear hb); (try clear hb2); (try clear hk); (try clear hi))); try go_wp2_with (first | (go_at_call 21; (with_reducible refine (class_Pages.calls ((rd_T44 l1 x15_4).f1) t350 t351 _ A56.out).mono ?_); rintro e w58 ⟨rfl, hb⟩; have n0_ := Aside0.mk (below_step (by repeat (first | (with_reducible first | exact HB.out | apply below_alloc | apply pw_below_drewN | apply below_drew1) | exact HB.out)) hb); clear HB; have HB := n0_; clear n0_; (try clear hb); (try clear hb2); (try clear hk); (try clear hi))))
                            go_roundg k4
                            case measure => have := HJ4.out; have := HK2.out; have := HJ9.out; have := HK4.out; omega
                            case rel => exact ⟨(wrap64 (x14_4 + t350)), (wrap64 (x15_4 + 1)), (by first | rfl | (simp; done) | (simp [*]; done)), (by first | rfl | (simp; done) | (simp [*]; done)), H', ⟨by have := HJ4.out; have := HK2.out; have := HJ9.out; have := HK4.out; omega⟩, ⟨by repeat (first | (with_reducible first | exact HB.out | apply below_alloc | apply pw_below_drewN | apply below_drew1) | exact HB.out)⟩⟩
                          · rw [if_neg c57] at H
                            have c57b0 : (t351 == 0) = false := beq_eq_false_iff_ne.mpr c57
                            have c57b1 : (t351 != 0) = true := bne_iff_ne.mpr c57
                            have H' := Aside0.mk H
                            clear H
                            have p349 : 0 ≤ (x15_4 : Int) := of_decide_eq_true (by first | (with_reducible assumption) | assumption)
                            have q349 : x15_4 < (l1.length : Int) := of_decide_eq_true (by first | (with_reducible assumption) | assumption)
                            obtain ⟨ad349, e349, hx349_0, hx349_1⟩ := at_T44 HR1.out x15_4 p349 q349
                            cases e349
                            replace hx349_0 := (HB.out.cell (World.block_lt_of_cell? w _ hx349_0)).trans hx349_0
                            replace hx349_1 := (HB.out.cell (World.block_lt_of_cell? w _ hx349_1)).trans hx349_1
                            replace p349 := eq_true p349
                            replace q349 := eq_true q349
                            go_wp2_with (first | (go_at_call 21; (with_reducible refine (class_Pages.calls ((rd_T44 l1 x15_4).f1) t350 t351 _ A56.out).mono ?_); rintro e w59 ⟨rfl, hb⟩; have n0_ := Aside0.mk (below_step (by repeat (first | (with_reducible first | exact HB.out | apply below_alloc | apply pw_below_drewN | apply below_drew1) | exact HB.out)) hb); clear HB; have HB := n0_; clear n0_; (try clear hb); (try clear hb2); (try clear hk); (try clear hi)))
                            repeat (go_quiet (first | (go_at_call 21; (with_reducible refine (class_Pages.calls ((rd_T44 l1 x15_4).f1) t350 t351 _ A56.out).mono ?_); rintro e w59 ⟨rfl, hb⟩; have n0_ := Aside0.mk (below_step (by repeat (first | (with_reducible first | exact HB.out | apply below_alloc | apply pw_below_drewN | apply below_drew1) | exact HB.out)) hb); clear HB; have HB := n0_; clear n0_; (try clear hb); (try clear hb2); (try clear hk); (try clear hi))); try go_wp2_with (first | (go_at_call 21; (with_reducible refine (class_Pages.calls ((rd_T44 l1 x15_4).f1) t350 t351 _ A56.out).mono ?_); rintro e w59 ⟨rfl, hb⟩; have n0_ := Aside0.mk (below_step (by repeat (first | (with_reducible first | exact HB.out | apply below_alloc | apply pw_below_drewN | apply below_drew1) | exact HB.out)) hb); clear HB; have HB := n0_; clear n0_; (try clear hb); (try clear hb2); (try clear hk); (try clear hi))))
                            go_roundg k4
                            case measure => have := HJ4.out; have := HK2.out; have := HJ9.out; have := HK4.out; omega
                            case rel => exact ⟨(wrap64 (x14_4 + 1)), (wrap64 (x15_4 + 1)), (by first | rfl | (simp; done) | (simp [*]; done)), (by first | rfl | (simp; done) | (simp [*]; done)), H', ⟨by have := HJ4.out; have := HK2.out; have := HJ9.out; have := HK4.out; omega⟩, ⟨by repeat (first | (with_reducible first | exact HB.out | apply below_alloc | apply pw_below_drewN | apply below_drew1) | exact HB.out)⟩⟩
                        · rw [if_neg c55] at H
                          exact absurd H (by simp)
                      · rw [if_neg c54] at H
                        have c54b0 : decide (x15_4 < (l1.length : Int)) = false := decide_eq_false c54
                        clear c54
                        by_cases c60 : t329 = true
                        · subst c60
                          have H1 : (if x8_2 = x14_4 then ((pages_Mates.f a0 l1 (-1)).bind fun t352 => ((pages_Mates.f a0 l1 a0).bind fun t355 => (some ((wrap64 ((t352.length : Int) + (t355.length : Int))) == 0)))) else (some false)) = some r := by rw [if_pos rfl] at H; exact H
                          clear H
                          have H := H1
                          clear H1
                          by_cases c61 : x8_2 = x14_4
                          · rw [if_pos c61] at H
                            have c61b0 : (x8_2 == x14_4) = true := beq_iff_eq.mpr c61
                            have c61b1 : (x8_2 != x14_4) = false := bne_eq_false_iff_eq.mpr c61
                            clear c61
                            replace H := Option.bind_eq_some_iff.mp H
                            obtain ⟨t352, A620, H⟩ := H
                            replace H : ((pages_Mates.f a0 l1 a0).bind fun t355 => (some ((wrap64 ((t352.length : Int) + (t355.length : Int))) == 0))) = some r := H
                            have A62 := Aside0.mk A620
                            clear A620
                            replace H := Option.bind_eq_some_iff.mp H
                            obtain ⟨t355, A630, H⟩ := H
                            replace H : (some ((wrap64 ((t352.length : Int) + (t355.length : Int))) == 0)) = some r := H
                            have A63 := Aside0.mk A630
                            clear A630
                            obtain rfl := Option.some.inj H
                            go_wp2_with (first | (go_at_call 37; (with_reducible refine (pages_Mates.calls a0 _ _ l1 (-1) t352 _ ?side1 ?side2 A62.out).mono ?_); (case side1 => repeat (first | exact (Kd.C_below HR1.out HB.out) | (with_reducible refine Kd.C_alloc ?_ _) | (with_reducible refine Kd.C_drewN ?_ _) | (with_reducible refine Kd.C_drew ?_))); (case side2 => exact HC1.out); rintro e w64 ⟨v353, rfl, ho0, hb⟩; have n0_ := Aside0.mk (Kd.R_lower ho0 (below_size (by repeat (first | (with_reducible first | exact HB.out | apply below_alloc | apply pw_below_drewN | apply below_drew1) | exact HB.out)))); have n1_ := Aside0.mk (below_step (by repeat (first | (with_reducible first | exact HB.out | apply below_alloc | apply pw_below_drewN | apply below_drew1) | exact HB.out)) hb); clear HB; have HO354 := n0_; have HB := n1_; clear n0_ n1_; (try clear hb); (try clear hb2); (try clear hk); (try clear hi); (try clear ho0); obtain ⟨Ao65, co65, eo65⟩ := Kd.R_slice HO354.out; subst eo65) | (go_at_call 37; (with_reducible refine (pages_Mates.calls a0 _ _ l1 a0 t355 _ ?side1 ?side2 A63.out).mono ?_); (case side1 => repeat (first | exact (Kd.C_below HR1.out HB.out) | (with_reducible refine Kd.C_alloc ?_ _) | (with_reducible refine Kd.C_drewN ?_ _) | (with_reducible refine Kd.C_drew ?_))); (case side2 => exact HC1.out); rintro e w66 ⟨v356, rfl, ho0, hb⟩; have n0_ := Aside0.mk (Kd.R_elder' (by (with_reducible repeat (first | apply Kd.R_alloc | apply Kd.R_drewN | apply Kd.R_drew)); exact HO354.out) (Kd.R_base ho0) hb); have n1_ := Aside0.mk (Kd.R_lower (Kd.R_new' ho0 (Kd.R_lt (by (with_reducible repeat (first | apply Kd.R_alloc | apply Kd.R_drewN | apply Kd.R_drew)); exact HO354.out))) (below_size (by repeat (first | (with_reducible first | exact HB.out | apply below_alloc | apply pw_below_drewN | apply below_drew1) | exact HB.out)))); have n2_ := Aside0.mk (below_step (by repeat (first | (with_reducible first | exact HB.out | apply below_alloc | apply pw_below_drewN | apply below_drew1) | exact HB.out)) hb); clear HO354; clear HB; have HO354 := n0_; have HO357 := n1_; have HB := n2_; clear n0_ n1_ n2_; (try clear hb); (try clear hb2); (try clear hk); (try clear hi); (try clear ho0); obtain ⟨Ao67, co67, eo67⟩ := Kd.R_slice HO357.out; subst eo67))
                            repeat (go_quiet (first | (go_at_call 37; (with_reducible refine (pages_Mates.calls a0 _ _ l1 (-1) t352 _ ?side1 ?side2 A62.out).mono ?_); (case side1 => repeat (first | exact (Kd.C_below HR1.out HB.out) | (with_reducible refine Kd.C_alloc ?_ _) | (with_reducible refine Kd.C_drewN ?_ _) | (with_reducible refine Kd.C_drew ?_))); (case side2 => exact HC1.out); rintro e w64 ⟨v353, rfl, ho0, hb⟩; have n0_ := Aside0.mk (Kd.R_lower ho0 (below_size (by repeat (first | (with_reducible first | exact HB.out | apply below_alloc | apply pw_below_drewN | apply below_drew1) | exact HB.out)))); have n1_ := Aside0.mk (below_step (by repeat (first | (with_reducible first | exact HB.out | apply below_alloc | apply pw_below_drewN | apply below_drew1) | exact HB.out)) hb); clear HB; have HO354 := n0_; have HB := n1_; clear n0_ n1_; (try clear hb); (try clear hb2); (try clear hk); (try clear hi); (try clear ho0); obtain ⟨Ao65, co65, eo65⟩ := Kd.R_slice HO354.out; subst eo65) | (go_at_call 37; (with_reducible refine (pages_Mates.calls a0 _ _ l1 a0 t355 _ ?side1 ?side2 A63.out).mono ?_); (case side1 => repeat (first | exact (Kd.C_below HR1.out HB.out) | (with_reducible refine Kd.C_alloc ?_ _) | (with_reducible refine Kd.C_drewN ?_ _) | (with_reducible refine Kd.C_drew ?_))); (case side2 => exact HC1.out); rintro e w66 ⟨v356, rfl, ho0, hb⟩; have n0_ := Aside0.mk (Kd.R_elder' (by (with_reducible repeat (first | apply Kd.R_alloc | apply Kd.R_drewN | apply Kd.R_drew)); exact HO354.out) (Kd.R_base ho0) hb); have n1_ := Aside0.mk (Kd.R_lower (Kd.R_new' ho0 (Kd.R_lt (by (with_reducible repeat (first | apply Kd.R_alloc | apply Kd.R_drewN | apply Kd.R_drew)); exact HO354.out))) (below_size (by repeat (first | (with_reducible first | exact HB.out | apply below_alloc | apply pw_below_drewN | apply below_drew1) | exact HB.out)))); have n2_ := Aside0.mk (below_step (by repeat (first | (with_reducible first | exact HB.out | apply below_alloc | apply pw_below_drewN | apply below_drew1) | exact HB.out)) hb); clear HO354; clear HB; have HO354 := n0_; have HO357 := n1_; have HB := n2_; clear n0_ n1_ n2_; (try clear hb); (try clear hb2); (try clear hk); (try clear hi); (try clear ho0); obtain ⟨Ao67, co67, eo67⟩ := Kd.R_slice HO357.out; subst eo67)); try go_wp2_with (first | (go_at_call 37; (with_reducible refine (pages_Mates.calls a0 _ _ l1 (-1) t352 _ ?side1 ?side2 A62.out).mono ?_); (case side1 => repeat (first | exact (Kd.C_below HR1.out HB.out) | (with_reducible refine Kd.C_alloc ?_ _) | (with_reducible refine Kd.C_drewN ?_ _) | (with_reducible refine Kd.C_drew ?_))); (case side2 => exact HC1.out); rintro e w64 ⟨v353, rfl, ho0, hb⟩; have n0_ := Aside0.mk (Kd.R_lower ho0 (below_size (by repeat (first | (with_reducible first | exact HB.out | apply below_alloc | apply pw_below_drewN | apply below_drew1) | exact HB.out)))); have n1_ := Aside0.mk (below_step (by repeat (first | (with_reducible first | exact HB.out | apply below_alloc | apply pw_below_drewN | apply below_drew1) | exact HB.out)) hb); clear HB; have HO354 := n0_; have HB := n1_; clear n0_ n1_; (try clear hb); (try clear hb2); (try clear hk); (try clear hi); (try clear ho0); obtain ⟨Ao65, co65, eo65⟩ := Kd.R_slice HO354.out; subst eo65) | (go_at_call 37; (with_reducible refine (pages_Mates.calls a0 _ _ l1 a0 t355 _ ?side1 ?side2 A63.out).mono ?_); (case side1 => repeat (first | exact (Kd.C_below HR1.out HB.out) | (with_reducible refine Kd.C_alloc ?_ _) | (with_reducible refine Kd.C_drewN ?_ _) | (with_reducible refine Kd.C_drew ?_))); (case side2 => exact HC1.out); rintro e w66 ⟨v356, rfl, ho0, hb⟩; have n0_ := Aside0.mk (Kd.R_elder' (by (with_reducible repeat (first | apply Kd.R_alloc | apply Kd.R_drewN | apply Kd.R_drew)); exact HO354.out) (Kd.R_base ho0) hb); have n1_ := Aside0.mk (Kd.R_lower (Kd.R_new' ho0 (Kd.R_lt (by (with_reducible repeat (first | apply Kd.R_alloc | apply Kd.R_drewN | apply Kd.R_drew)); exact HO354.out))) (below_size (by repeat (first | (with_reducible first | exact HB.out | apply below_alloc | apply pw_below_drewN | apply below_drew1) | exact HB.out)))); have n2_ := Aside0.mk (below_step (by repeat (first | (with_reducible first | exact HB.out | apply below_alloc | apply pw_below_drewN | apply below_drew1) | exact HB.out)) hb); clear HO354; clear HB; have HO354 := n0_; have HO357 := n1_; have HB := n2_; clear n0_ n1_ n2_; (try clear hb); (try clear hb2); (try clear hk); (try clear hi); (try clear ho0); obtain ⟨Ao67, co67, eo67⟩ := Kd.R_slice HO357.out; subst eo67)))
                            go_ret
                            exact ⟨by first | rfl | (simp [errW_none, errW_some] <;> rfl) | (simp [*, errW_none, errW_some] <;> rfl), by repeat (first | (with_reducible first | exact HB.out | apply below_alloc | apply pw_below_drewN | apply below_drew1) | exact HB.out)⟩
                          · rw [if_neg c61] at H
                            have c61b0 : (x8_2 == x14_4) = false := beq_eq_false_iff_ne.mpr c61
                            have c61b1 : (x8_2 != x14_4) = true := bne_iff_ne.mpr c61
                            obtain rfl := Option.some.inj H
                            go_wp2
                            repeat (go_quiet (fail); try go_wp2)
                            go_ret
                            exact ⟨by first | rfl | (simp [errW_none, errW_some] <;> rfl) | (simp [*, errW_none, errW_some] <;> rfl), by repeat (first | (with_reducible first | exact HB.out | apply below_alloc | apply pw_below_drewN | apply below_drew1) | exact HB.out)⟩
                        · replace c60 := Bool.eq_false_iff.mpr c60
                          subst c60
                          have H1 : (some false) = some r := by rw [if_neg (show ¬ (false = true) by decide)] at H; exact H
                          clear H
                          have H := H1
                          clear H1
                          obtain rfl := Option.some.inj H
                          go_wp2
                          repeat (go_quiet (fail); try go_wp2)
                          go_ret
                          exact ⟨by first | rfl | (simp [errW_none, errW_some] <;> rfl) | (simp [*, errW_none, errW_some] <;> rfl), by repeat (first | (with_reducible first | exact HB.out | apply below_alloc | apply pw_below_drewN | apply below_drew1) | exact HB.out)⟩

end Go.Proofs.Ytlpkbekpdhaplaa.P
