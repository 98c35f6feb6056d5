-- Printed by wip/tools/pp.py.
import Derived.Test.YtlpkbekpdhaplaaP0
import Derived.Test.YtlpkbekpdhaplaaP11
import Derived.Test.YtlpkbekpdhaplaaEs
namespace Go.Proofs.Ytlpkbekpdhaplaa.P
open Go.RowKit Go.Proofs.YtlpkbekpdhaplaaW.PrintWords Go.Proofs.YtlpkbekpdhaplaaW.PrintLast Go.Proofs.YtlpkbekpdhaplaaW.PrintMore
attribute [local go_sem] max2_int min2_int max_two min_two max_three min_three max_four min_four   -- for this text's walks alone
set_option linter.unusedVariables false
set_option linter.unusedSimpArgs false

/-! ### joistref13_Kinds: function 35 -/
mutual
def joistref13_Kinds.j0 : Nat → Int → List (S44) → Bool → Option (List Int × Bool)
  | 0, _, _, _ => none
  | k + 1, x0, x1, x22 => if x22 = true then (some (([] : List Int), false)) else (if 0 ≤ x0 then (if (x0 : Int).toNat ≤ 35184372088832 then (joistref13_Kinds.l0 k x0 x1 (List.replicate (x0 : Int).toNat 0) 0) else (none)) else (none))
def joistref13_Kinds.l0 : Nat → Int → List (S44) → List Int → Int → Option (List Int × Bool)
  | 0, _, _, _, _ => none
  | k + 1, x0, x1, x6, x7 => if x7 < x0 then (if 0 ≤ x7 then (if x7 < (x6.length : Int) then (joistref13_Kinds.l0 k x0 x1 (x6.set (x7 : Int).toNat (-1)) (wrap64 (x7 + 1))) else (none)) else (none)) else (joistref13_Kinds.l1 k x0 x1 x6 0)
def joistref13_Kinds.l1 : Nat → Int → List (S44) → List Int → Int → Option (List Int × Bool)
  | 0, _, _, _, _ => none
  | k + 1, x0, x1, x6, x8 => if x8 < (x1.length : Int) then (if 0 ≤ x8 then ((joistref13_span.f k x0 ((rd_T44 x1 x8).f0) ((rd_T44 x1 x8).f1)).bind fun bt248 => (if bt248.2.2 = true then ((joistref13_cell.f k ((rd_T44 x1 x8).f0) ((rd_T44 x1 x8).f1)).bind fun bt253 => (if bt253.2.2.2 = true then (if 0 ≤ bt253.1 then (if bt253.1 < (x6.length : Int) then (if (rd x6 bt253.1) = (-1) then (joistref13_Kinds.j3 k x0 x1 x6 x8 bt253.1 bt253.2.1 false) else (joistref13_Kinds.j3 k x0 x1 x6 x8 bt253.1 bt253.2.1 ((rd x6 bt253.1) != bt253.2.1))) else (none)) else (none)) else (joistref13_Kinds.l3 k x0 x1 x6 x8 bt248.1 bt248.1 bt248.2.1))) else (some (([] : List Int), false)))) else (none)) else (some (x6, true))
def joistref13_Kinds.j3 : Nat → Int → List (S44) → List Int → Int → Int → Int → Bool → Option (List Int × Bool)
  | 0, _, _, _, _, _, _, _ => none
  | k + 1, x0, x1, x6, x8, x11, x12, x73 => if x73 = true then (some (([] : List Int), false)) else (joistref13_Kinds.l2 k x0 x1 x6 x8 x11 x12 0)
def joistref13_Kinds.l2 : Nat → Int → List (S44) → List Int → Int → Int → Int → Int → Option (List Int × Bool)
  | 0, _, _, _, _, _, _, _ => none
  | k + 1, x0, x1, x6, x8, x11, x12, x15 => if x15 < x8 then (if 0 ≤ x15 then (if x15 < (x1.length : Int) then (if 0 ≤ x8 then (if x8 < (x1.length : Int) then (if ((rd_T44 x1 x15).f0) = ((rd_T44 x1 x8).f0) then (some (([] : List Int), false)) else (joistref13_Kinds.l2 k x0 x1 x6 x8 x11 x12 (wrap64 (x15 + 1)))) else (none)) else (none)) else (none)) else (none)) else (if 0 ≤ x11 then (if x11 < (x6.length : Int) then (joistref13_Kinds.l1 k x0 x1 (x6.set (x11 : Int).toNat x12) (wrap64 (x8 + 1))) else (none)) else (none))
def joistref13_Kinds.l3 : Nat → Int → List (S44) → List Int → Int → Int → Int → Int → Option (List Int × Bool)
  | 0, _, _, _, _, _, _, _ => none
  | k + 1, x0, x1, x6, x8, x16, x252000, x252001 => if x16 < (wrap64 (x252000 + x252001)) then (if 0 ≤ x16 then (if x16 < (x6.length : Int) then (if (rd x6 x16) = (-1) then (joistref13_Kinds.l3 k x0 x1 (x6.set (x16 : Int).toNat 7) x8 (wrap64 (x16 + 1)) x252000 x252001) else (some (([] : List Int), false))) else (none)) else (none)) else (if 0 ≤ x252000 then (if x252000 < (x6.length : Int) then (joistref13_Kinds.l1 k x0 x1 (x6.set (x252000 : Int).toNat 6) (wrap64 (x8 + 1))) else (none)) else (none))
end
def joistref13_Kinds.f (k : Nat) (a0 : Int) (l1 : List (S44)) : Option (List Int × Bool) := if a0 < 0 then (joistref13_Kinds.j0 k a0 l1 true) else (joistref13_Kinds.j0 k a0 l1 (decide (a0 > 64)))
theorem joistref13_Kinds.mono_l : ∀ k, (∀ y0 y1 y2, LeO (joistref13_Kinds.j0 k y0 y1 y2) (joistref13_Kinds.j0 (k + 1) y0 y1 y2)) ∧ (∀ y0 y1 y2 y3, LeO (joistref13_Kinds.l0 k y0 y1 y2 y3) (joistref13_Kinds.l0 (k + 1) y0 y1 y2 y3)) ∧ (∀ y0 y1 y2 y3, LeO (joistref13_Kinds.l1 k y0 y1 y2 y3) (joistref13_Kinds.l1 (k + 1) y0 y1 y2 y3)) ∧ (∀ y0 y1 y2 y3 y4 y5 y6, LeO (joistref13_Kinds.j3 k y0 y1 y2 y3 y4 y5 y6) (joistref13_Kinds.j3 (k + 1) y0 y1 y2 y3 y4 y5 y6)) ∧ (∀ y0 y1 y2 y3 y4 y5 y6, LeO (joistref13_Kinds.l2 k y0 y1 y2 y3 y4 y5 y6) (joistref13_Kinds.l2 (k + 1) y0 y1 y2 y3 y4 y5 y6)) ∧ (∀ y0 y1 y2 y3 y4 y5 y6, LeO (joistref13_Kinds.l3 k y0 y1 y2 y3 y4 y5 y6) (joistref13_Kinds.l3 (k + 1) y0 y1 y2 y3 y4 y5 y6))
  | 0 => ⟨fun _ _ _ r h => by simp [joistref13_Kinds.j0] at h, fun _ _ _ _ r h => by simp [joistref13_Kinds.l0] at h, fun _ _ _ _ r h => by simp [joistref13_Kinds.l1] at h, fun _ _ _ _ _ _ _ r h => by simp [joistref13_Kinds.j3] at h, fun _ _ _ _ _ _ _ r h => by simp [joistref13_Kinds.l2] at h, fun _ _ _ _ _ _ _ r h => by simp [joistref13_Kinds.l3] at h⟩
  | k + 1 => by
    obtain ⟨ih0, ih1, ih2, ih3, ih4, ih5⟩ := joistref13_Kinds.mono_l k
    refine ⟨?_, ?_, ?_, ?_, ?_, ?_⟩
    · intro y0 y1 y2
      unfold joistref13_Kinds.j0
      repeat' first
      | (with_reducible exact ih0 _ _ _)
      | (with_reducible exact ih1 _ _ _ _)
      | (with_reducible exact ih2 _ _ _ _)
      | (with_reducible exact ih3 _ _ _ _ _ _ _)
      | (with_reducible exact ih4 _ _ _ _ _ _ _)
      | (with_reducible exact ih5 _ _ _ _ _ _ _)
      | (with_reducible exact joistref13_cell.mono _ _ _)
      | (with_reducible exact joistref13_span.mono _ _ _ _)
      | (with_reducible exact LeO.refl _)
      | (with_reducible exact LeO.none _)
      | (with_reducible refine LeO.ite ?_ ?_)
      | (with_reducible refine LeO.bind ?_ (fun _ => ?_))
      | exact ih0 _ _ _
      | exact ih1 _ _ _ _
      | exact ih2 _ _ _ _
      | exact ih3 _ _ _ _ _ _ _
      | exact ih4 _ _ _ _ _ _ _
      | exact ih5 _ _ _ _ _ _ _
      | exact joistref13_cell.mono _ _ _
      | exact joistref13_span.mono _ _ _ _
      | exact LeO.none _
      | refine LeO.ite ?_ ?_
      | refine LeO.bind ?_ (fun _ => ?_)
    · intro y0 y1 y2 y3
      unfold joistref13_Kinds.l0
      repeat' first
      | (with_reducible exact ih0 _ _ _)
      | (with_reducible exact ih1 _ _ _ _)
      | (with_reducible exact ih2 _ _ _ _)
      | (with_reducible exact ih3 _ _ _ _ _ _ _)
      | (with_reducible exact ih4 _ _ _ _ _ _ _)
      | (with_reducible exact ih5 _ _ _ _ _ _ _)
      | (with_reducible exact joistref13_cell.mono _ _ _)
      | (with_reducible exact joistref13_span.mono _ _ _ _)
      | (with_reducible exact LeO.refl _)
      | (with_reducible exact LeO.none _)
      | (with_reducible refine LeO.ite ?_ ?_)
      | (with_reducible refine LeO.bind ?_ (fun _ => ?_))
      | exact ih0 _ _ _
      | exact ih1 _ _ _ _
      | exact ih2 _ _ _ _
      | exact ih3 _ _ _ _ _ _ _
      | exact ih4 _ _ _ _ _ _ _
      | exact ih5 _ _ _ _ _ _ _
      | exact joistref13_cell.mono _ _ _
      | exact joistref13_span.mono _ _ _ _
      | exact LeO.none _
      | refine LeO.ite ?_ ?_
      | refine LeO.bind ?_ (fun _ => ?_)
    · intro y0 y1 y2 y3
      unfold joistref13_Kinds.l1
      repeat' first
      | (with_reducible exact ih0 _ _ _)
      | (with_reducible exact ih1 _ _ _ _)
      | (with_reducible exact ih2 _ _ _ _)
      | (with_reducible exact ih3 _ _ _ _ _ _ _)
      | (with_reducible exact ih4 _ _ _ _ _ _ _)
      | (with_reducible exact ih5 _ _ _ _ _ _ _)
      | (with_reducible exact joistref13_cell.mono _ _ _)
      | (with_reducible exact joistref13_span.mono _ _ _ _)
      | (with_reducible exact LeO.refl _)
      | (with_reducible exact LeO.none _)
      | (with_reducible refine LeO.ite ?_ ?_)
      | (with_reducible refine LeO.bind ?_ (fun _ => ?_))
      | exact ih0 _ _ _
      | exact ih1 _ _ _ _
      | exact ih2 _ _ _ _
      | exact ih3 _ _ _ _ _ _ _
      | exact ih4 _ _ _ _ _ _ _
      | exact ih5 _ _ _ _ _ _ _
      | exact joistref13_cell.mono _ _ _
      | exact joistref13_span.mono _ _ _ _
      | exact LeO.none _
      | refine LeO.ite ?_ ?_
      | refine LeO.bind ?_ (fun _ => ?_)
    · intro y0 y1 y2 y3 y4 y5 y6
      unfold joistref13_Kinds.j3
      repeat' first
      | (with_reducible exact ih0 _ _ _)
      | (with_reducible exact ih1 _ _ _ _)
      | (with_reducible exact ih2 _ _ _ _)
      | (with_reducible exact ih3 _ _ _ _ _ _ _)
      | (with_reducible exact ih4 _ _ _ _ _ _ _)
      | (with_reducible exact ih5 _ _ _ _ _ _ _)
      | (with_reducible exact joistref13_cell.mono _ _ _)
      | (with_reducible exact joistref13_span.mono _ _ _ _)
      | (with_reducible exact LeO.refl _)
      | (with_reducible exact LeO.none _)
      | (with_reducible refine LeO.ite ?_ ?_)
      | (with_reducible refine LeO.bind ?_ (fun _ => ?_))
      | exact ih0 _ _ _
      | exact ih1 _ _ _ _
      | exact ih2 _ _ _ _
      | exact ih3 _ _ _ _ _ _ _
      | exact ih4 _ _ _ _ _ _ _
      | exact ih5 _ _ _ _ _ _ _
      | exact joistref13_cell.mono _ _ _
      | exact joistref13_span.mono _ _ _ _
      | exact LeO.none _
      | refine LeO.ite ?_ ?_
      | refine LeO.bind ?_ (fun _ => ?_)
    · intro y0 y1 y2 y3 y4 y5 y6
      unfold joistref13_Kinds.l2
      repeat' first
      | (with_reducible exact ih0 _ _ _)
      | (with_reducible exact ih1 _ _ _ _)
      | (with_reducible exact ih2 _ _ _ _)
      | (with_reducible exact ih3 _ _ _ _ _ _ _)
      | (with_reducible exact ih4 _ _ _ _ _ _ _)
      | (with_reducible exact ih5 _ _ _ _ _ _ _)
      | (with_reducible exact joistref13_cell.mono _ _ _)
      | (with_reducible exact joistref13_span.mono _ _ _ _)
      | (with_reducible exact LeO.refl _)
      | (with_reducible exact LeO.none _)
      | (with_reducible refine LeO.ite ?_ ?_)
      | (with_reducible refine LeO.bind ?_ (fun _ => ?_))
      | exact ih0 _ _ _
      | exact ih1 _ _ _ _
      | exact ih2 _ _ _ _
      | exact ih3 _ _ _ _ _ _ _
      | exact ih4 _ _ _ _ _ _ _
      | exact ih5 _ _ _ _ _ _ _
      | exact joistref13_cell.mono _ _ _
      | exact joistref13_span.mono _ _ _ _
      | exact LeO.none _
      | refine LeO.ite ?_ ?_
      | refine LeO.bind ?_ (fun _ => ?_)
    · intro y0 y1 y2 y3 y4 y5 y6
      unfold joistref13_Kinds.l3
      repeat' first
      | (with_reducible exact ih0 _ _ _)
      | (with_reducible exact ih1 _ _ _ _)
      | (with_reducible exact ih2 _ _ _ _)
      | (with_reducible exact ih3 _ _ _ _ _ _ _)
      | (with_reducible exact ih4 _ _ _ _ _ _ _)
      | (with_reducible exact ih5 _ _ _ _ _ _ _)
      | (with_reducible exact joistref13_cell.mono _ _ _)
      | (with_reducible exact joistref13_span.mono _ _ _ _)
      | (with_reducible exact LeO.refl _)
      | (with_reducible exact LeO.none _)
      | (with_reducible refine LeO.ite ?_ ?_)
      | (with_reducible refine LeO.bind ?_ (fun _ => ?_))
      | exact ih0 _ _ _
      | exact ih1 _ _ _ _
      | exact ih2 _ _ _ _
      | exact ih3 _ _ _ _ _ _ _
      | exact ih4 _ _ _ _ _ _ _
      | exact ih5 _ _ _ _ _ _ _
      | exact joistref13_cell.mono _ _ _
      | exact joistref13_span.mono _ _ _ _
      | exact LeO.none _
      | refine LeO.ite ?_ ?_
      | refine LeO.bind ?_ (fun _ => ?_)
theorem joistref13_Kinds.mono : ∀ a0 a1 k, LeO (joistref13_Kinds.f k a0 a1) (joistref13_Kinds.f (k + 1) a0 a1) := by
  intro a0 a1 k
  obtain ⟨ih0, ih1, ih2, ih3, ih4, ih5⟩ := joistref13_Kinds.mono_l k
  unfold joistref13_Kinds.f
  repeat' first
      | (with_reducible exact ih0 _ _ _)
      | (with_reducible exact ih1 _ _ _ _)
      | (with_reducible exact ih2 _ _ _ _)
      | (with_reducible exact ih3 _ _ _ _ _ _ _)
      | (with_reducible exact ih4 _ _ _ _ _ _ _)
      | (with_reducible exact ih5 _ _ _ _ _ _ _)
      | (with_reducible exact joistref13_cell.mono _ _ _)
      | (with_reducible exact joistref13_span.mono _ _ _ _)
      | (with_reducible exact LeO.refl _)
      | (with_reducible exact LeO.none _)
      | (with_reducible refine LeO.ite ?_ ?_)
      | (with_reducible refine LeO.bind ?_ (fun _ => ?_))
      | exact ih0 _ _ _
      | exact ih1 _ _ _ _
      | exact ih2 _ _ _ _
      | exact ih3 _ _ _ _ _ _ _
      | exact ih4 _ _ _ _ _ _ _
      | exact ih5 _ _ _ _ _ _ _
      | exact joistref13_cell.mono _ _ _
      | exact joistref13_span.mono _ _ _ _
      | exact LeO.none _
      | refine LeO.ite ?_ ?_
      | refine LeO.bind ?_ (fun _ => ?_)
set_option maxHeartbeats 8000000 in
set_option maxRecDepth 100000 in
theorem joistref13_Kinds.calls (k : Nat) (a0 : Int) (A1 : Option Addr) (c1 : Nat) (l1 : List (S44)) (r1 : List Int) (r2 : Bool) (w : World) (hr1 : Kd.C k44 w A1 l1.length l1) (hc1 : l1.length ≤ c1) (h : joistref13_Kinds.f k a0 l1 = some (r1, r2)) :
    Calls Try.prog 35 #[.int .i64 a0, .slice A1 l1.length c1] w fun e w' => ∃ v0_ : Value, e = .returned (.tuple #[v0_, .bool r2]) ∧ Kd.R (Kd.int .i64) 3 w' w.heap.size (fun _ => True) v0_ r1 ∧ Below w.heap.size w w' := by
  have hu44 := Try.underlying44
  have hu48 := Try.underlying48
  have HR1 := Aside0.mk hr1
  have HC1 := Aside0.mk hc1
  clear hr1 hc1
  have HB := Aside0.mk (Below.refl w.heap.size w)
  have H : (if a0 < 0 then (joistref13_Kinds.j0 k a0 l1 true) else (joistref13_Kinds.j0 k a0 l1 (decide (a0 > 64)))) = some (r1, r2) := h
  clear h
  have HC3 := Aside0.mk H
  clear H
  go_enter Try.func35, Try.ntmps35
  go_upto_region 1 with (fail)
  repeat (go_quiet (fail); go_upto_region 1 with (fail))
  go_cut [22] (fun v22 wc => ∃ (kq : Nat) (x22_2 : Bool), v22 = .bool x22_2 ∧ Aside0 (joistref13_Kinds.j0 kq a0 l1 x22_2 = some (r1, r2)) ∧ Aside0 (kq ≤ k) ∧ Aside0 (Below w.heap.size w wc))
  case first =>
    have H := HC3.out
    clear HC3
    by_cases c4 : a0 < 0
    · rw [if_pos c4] at H
      have c4b0 : decide (a0 < 0) = true := decide_eq_true c4
      clear c4
      (first | rw [c4b0] | (simp only [i64_w, i32_w]; rw [c4b0]) | skip)
      have H' := Aside0.mk H
      clear H
      go_wp2
      repeat (go_quiet (fail); try go_wp2)
      go_meet
      case rel => exact ⟨_, (true), (by first | rfl | (simp; done) | (simp [*]; done)), H', ⟨by first | omega | exact Nat.le_refl _⟩, ⟨by repeat (first | (with_reducible first | exact HB.out | apply below_alloc | apply pw_below_drewN | apply below_drew1) | exact HB.out)⟩⟩
    · rw [if_neg c4] at H
      have c4b0 : decide (a0 < 0) = false := decide_eq_false c4
      clear c4
      (first | rw [c4b0] | (simp only [i64_w, i32_w]; rw [c4b0]) | skip)
      have H' := Aside0.mk H
      clear H
      go_wp2
      repeat (go_quiet (fail); try go_wp2)
      go_meet
      case rel => exact ⟨_, (decide (a0 > 64)), (by first | rfl | (simp; done) | (simp [*]; done)), H', ⟨by first | omega | exact Nat.le_refl _⟩, ⟨by repeat (first | (with_reducible first | exact HB.out | apply below_alloc | apply pw_below_drewN | apply below_drew1) | exact HB.out)⟩⟩
  case rest =>
    clear HC3
    try clear c1
    try clear p2
    try clear c3
    try clear c4
    try clear c4b0
    obtain ⟨kq, x22_2, rfl, HA, HJ2, HB⟩ := hcut
    cases kq with
    | zero => exact absurd HA.out (by simp [joistref13_Kinds.j0])
    | succ kj2 =>
      have H := HA.out
      clear HA
      simp only [joistref13_Kinds.j0] at H
      by_cases c5 : x22_2 = true
      · subst c5
        have H1 : (some (([] : List Int), false)) = some (r1, r2) := by rw [if_pos rfl] at H; exact H
        clear H
        have H := H1
        clear H1
        simp only [Option.some.injEq, Prod.mk.injEq] at H
        obtain ⟨rfl, rfl⟩ := H
        go_wp2
        repeat (go_quiet (fail); try go_wp2)
        go_ret2
        exact ⟨_, by first | rfl | (simp [errW_none, errW_some] <;> rfl) | (simp [*, errW_none, errW_some] <;> rfl), by first | exact Kd.R_nil _ _ _ _ _ | exact Kd.N_nil _ _ _ _ _ | exact Kd.V_nil _ _ _ _ _ | exact Kd.Q_nil _ _ _ _ _ | exact Kd.S_nil _ _ _ _ _, by repeat (first | (with_reducible first | exact HB.out | apply below_alloc | apply pw_below_drewN | apply below_drew1) | exact HB.out)⟩
      · replace c5 := Bool.eq_false_iff.mpr c5
        subst c5
        have H1 : (if 0 ≤ a0 then (if (a0 : Int).toNat ≤ 35184372088832 then (joistref13_Kinds.l0 kj2 a0 l1 (List.replicate (a0 : Int).toNat 0) 0) else (none)) else (none)) = some (r1, r2) := by rw [if_neg (show ¬ (false = true) by decide)] at H; exact H
        clear H
        have H := H1
        clear H1
        by_cases c6 : 0 ≤ a0
        · rw [if_pos c6] at H
          have c6b0 := eq_true c6
          have c6b1 : decide (0 ≤ a0) = true := decide_eq_true c6
          clear c6
          by_cases c7 : (a0 : Int).toNat ≤ 35184372088832
          · rw [if_pos c7] at H
            have c7b0 := eq_true c7
            have c7b1 : decide ((a0 : Int).toNat ≤ 35184372088832) = true := decide_eq_true c7
            clear c7
            obtain ⟨y243, hy243⟩ : ∃ y_ : List Int, y_ = (List.replicate (a0 : Int).toNat 0) := ⟨_, rfl⟩
            replace H : (joistref13_Kinds.l0 kj2 a0 l1 y243 0) = some (r1, r2) := by first | (rw [hy243]; with_reducible exact H) | (have H2_ := (Option.bind_some _ _).symm.trans H; rw [hy243]; with_reducible exact H2_) | (have H2_ := (Option.bind_some _ _).symm.trans H; with_reducible exact H2_) | with_reducible exact H | (rw [hy243]; exact H) | exact H
            have Ny243 := Aside0.mk hy243
            clear hy243
            have H' := Aside0.mk H
            clear H
            go_wp2_with (first | ((with_reducible refine gate_dst (N := 24) rfl ?_); refine Kd.R_make (Kd.int .i64) _ 3 rfl (N := 24) rfl 33 _ _ rfl a0 rfl rfl Try.underlying33 (.int .i64 0) 8 info3 rfl (by decide) (by omega) 0 (ok := fun _ => True) (okp := fun _ => True) rfl (fun _ hk => hk) trivial (of_decide_eq_true (by first | (with_reducible assumption) | assumption)) (Nat.le_trans (Nat.mul_le_mul_right _ (of_decide_eq_true (by first | (with_reducible assumption) | assumption) : a0.toNat ≤ 35184372088832)) (by omega)) (Below.refl _ _) (Nat.le_refl _) ?_; intro v244 w8 ho9 hb hg_ hnew_; clear hg_ hnew_; (first | rw [← Ny243.out] at ho9 | (simp only [Int.reduceToNat] at ho9; rw [← Ny243.out] at ho9)); have n0_ := Aside0.mk (Kd.R_lower ho9 (below_size (by repeat (first | (with_reducible first | exact HB.out | apply below_alloc | apply pw_below_drewN | apply below_drew1) | exact HB.out)))); have n1_ := Aside0.mk (below_step (by repeat (first | (with_reducible first | exact HB.out | apply below_alloc | apply pw_below_drewN | apply below_drew1) | exact HB.out)) hb); clear HB; have HO245 := n0_; have HB := n1_; clear n0_ n1_; clear hb ho9))
            repeat (go_quiet (fail); try go_wp2_with (first | ((with_reducible refine gate_dst (N := 24) rfl ?_); refine Kd.R_make (Kd.int .i64) _ 3 rfl (N := 24) rfl 33 _ _ rfl a0 rfl rfl Try.underlying33 (.int .i64 0) 8 info3 rfl (by decide) (by omega) 0 (ok := fun _ => True) (okp := fun _ => True) rfl (fun _ hk => hk) trivial (of_decide_eq_true (by first | (with_reducible assumption) | assumption)) (Nat.le_trans (Nat.mul_le_mul_right _ (of_decide_eq_true (by first | (with_reducible assumption) | assumption) : a0.toNat ≤ 35184372088832)) (by omega)) (Below.refl _ _) (Nat.le_refl _) ?_; intro v244 w8 ho9 hb hg_ hnew_; clear hg_ hnew_; (first | rw [← Ny243.out] at ho9 | (simp only [Int.reduceToNat] at ho9; rw [← Ny243.out] at ho9)); have n0_ := Aside0.mk (Kd.R_lower ho9 (below_size (by repeat (first | (with_reducible first | exact HB.out | apply below_alloc | apply pw_below_drewN | apply below_drew1) | exact HB.out)))); have n1_ := Aside0.mk (below_step (by repeat (first | (with_reducible first | exact HB.out | apply below_alloc | apply pw_below_drewN | apply below_drew1) | exact HB.out)) hb); clear HB; have HO245 := n0_; have HB := n1_; clear n0_ n1_; clear hb ho9)))
            go_loopg [7] kj2 (fun kq v7 w' => ∃ (x6_2 : List Int) (x7_2 : Int), v7 = .int .i64 x7_2 ∧ Aside0 (joistref13_Kinds.l0 kq a0 l1 x6_2 x7_2 = some (r1, r2)) ∧ Aside0 (kq ≤ kj2) ∧ Aside0 (Kd.R (Kd.int .i64) 3 w' w.heap.size (fun _ => True) v244 x6_2) ∧ Aside0 (Below w.heap.size w w'))
            case atStart => exact ⟨(y243), (0), (by first | rfl | (simp; done) | (simp [*]; done)), H', ⟨Nat.le_refl _⟩, ⟨by (with_reducible repeat (first | apply Kd.R_alloc | apply Kd.R_drewN | apply Kd.R_drew)); exact HO245.out⟩, ⟨by repeat (first | (with_reducible first | exact HB.out | apply below_alloc | apply pw_below_drewN | apply below_drew1) | exact HB.out)⟩⟩
            case round =>
              clear H'
              try clear c1
              try clear p2
              try clear c3
              try clear c4
              try clear c4b0
              try clear c5
              try clear c6
              try clear c6b0
              try clear c6b1
              try clear c7
              try clear c7b0
              try clear c7b1
              try clear p2
              obtain ⟨x6_2, x7_2, rfl, HA, HK2, HO_6, HB⟩ := hrel
              cases gk with
              | zero => exact absurd HA.out (by simp [joistref13_Kinds.l0])
              | succ k2 =>
                have H := HA.out
                clear HA
                simp only [joistref13_Kinds.l0] at H
                by_cases c10 : x7_2 < a0
                · rw [if_pos c10] at H
                  have c10b0 : decide (x7_2 < a0) = true := decide_eq_true c10
                  clear c10
                  by_cases c11 : 0 ≤ x7_2
                  · rw [if_pos c11] at H
                    have c11b0 : decide (0 ≤ x7_2) = true := decide_eq_true c11
                    clear c11
                    by_cases c12 : x7_2 < (x6_2.length : Int)
                    · rw [if_pos c12] at H
                      have c12b0 : decide (x7_2 < (x6_2.length : Int)) = true := decide_eq_true c12
                      clear c12
                      obtain ⟨y246, hy246⟩ : ∃ y_ : List Int, y_ = (x6_2.set (x7_2 : Int).toNat (-1)) := ⟨_, rfl⟩
                      replace H : (joistref13_Kinds.l0 k2 a0 l1 y246 (wrap64 (x7_2 + 1))) = some (r1, r2) := by first | (rw [hy246]; with_reducible exact H) | (have H2_ := (Option.bind_some _ _).symm.trans H; rw [hy246]; with_reducible exact H2_) | (have H2_ := (Option.bind_some _ _).symm.trans H; with_reducible exact H2_) | with_reducible exact H | (rw [hy246]; exact H) | exact H
                      have Ny246 := Aside0.mk hy246
                      clear hy246
                      have H' := Aside0.mk H
                      clear H
                      have p13 : 0 ≤ (x7_2 : Int) := of_decide_eq_true (by first | (with_reducible assumption) | assumption)
                      have q13 : (x7_2 : Int) < ((x6_2.length : Int) : Int) := of_decide_eq_true (by first | (with_reducible assumption) | assumption)
                      obtain ⟨go13, co13, eo13, gb13, gl13, cl13, HG13⟩ := Kd.R_form HO_6.out (by omega)
                      (first | cases eo13 | (injection eo13 with ea_ en_ ec_; (first | subst ea_ | (injection ea_ with ea_; subst ea_)); subst ec_; clear en_))
                      have GB13 := Aside0.mk gb13
                      have GG13 := Aside0.mk HG13
                      clear gb13 gl13 HG13
                      obtain ⟨hx13_0, hf13_0⟩ := Kd.R_celln 0 HO_6.out (x7_2 : Int) p13 q13
                      replace p13 := eq_true p13
                      replace q13 := eq_true q13
                      have HP14 := Kd.R_putg HO_6.out (x7_2 : Int) (-1)
                      go_wp2_with (first | ((with_reducible refine gate_store (t := 3) (p := 32) rfl ?_); (try (rw [drewN_self wr]; generalize hq_ : World.drewN wr _ = wr; have n0_ := Aside0.mk (Kd.R_at hq_ HO_6.out); have n1_ := Aside0.mk (below_at hq_ HB.out); clear hq_ HO_6 HB; have HO_6 := n0_; have HB := n1_; clear n0_ n1_; (try (have HP14 := Kd.R_putg HO_6.out (x7_2 : Int) (-1))))); refine store_event (t := 3) (p := 32) (v := ?vo_w15) (w1 := (wr.setCell ⟨go13, (x7_2 : Int).toNat, none⟩ (.int .i64 (-1)))) ?hg ?ho ?hn ?hr ?_; (case ho => rfl); (case hg => rfl); (case hn => rfl); (case hr => first | (go_simp; done) | (go_simp; rfl)); intro w15 hw; have hg : wr.grownBy w15 (some go13) := (by rw [hw]; exact HP14.2); have hp_ : Kd.R (Kd.int .i64) 3 w15 w.heap.size (fun _ => True) (.slice (some ⟨go13, 0, none⟩) x6_2.length co13) y246 := (by rw [hw, Ny246.out]; exact HP14.1); clear HP14; have n0_ := Aside0.mk (hp_); have n1_ := Aside0.mk ((by rw [hw]; exact below_set (HB.out) GB13.out : Below w.heap.size w w15)); clear HO_6; clear HB; have HO_6 := n0_; have HB := n1_; clear n0_ n1_; clear hg hw hp_))
                      repeat (go_quiet (fail); try go_wp2_with (first | ((with_reducible refine gate_store (t := 3) (p := 32) rfl ?_); (try (rw [drewN_self wr]; generalize hq_ : World.drewN wr _ = wr; have n0_ := Aside0.mk (Kd.R_at hq_ HO_6.out); have n1_ := Aside0.mk (below_at hq_ HB.out); clear hq_ HO_6 HB; have HO_6 := n0_; have HB := n1_; clear n0_ n1_; (try (have HP14 := Kd.R_putg HO_6.out (x7_2 : Int) (-1))))); refine store_event (t := 3) (p := 32) (v := ?vo_w15) (w1 := (wr.setCell ⟨go13, (x7_2 : Int).toNat, none⟩ (.int .i64 (-1)))) ?hg ?ho ?hn ?hr ?_; (case ho => rfl); (case hg => rfl); (case hn => rfl); (case hr => first | (go_simp; done) | (go_simp; rfl)); intro w15 hw; have hg : wr.grownBy w15 (some go13) := (by rw [hw]; exact HP14.2); have hp_ : Kd.R (Kd.int .i64) 3 w15 w.heap.size (fun _ => True) (.slice (some ⟨go13, 0, none⟩) x6_2.length co13) y246 := (by rw [hw, Ny246.out]; exact HP14.1); clear HP14; have n0_ := Aside0.mk (hp_); have n1_ := Aside0.mk ((by rw [hw]; exact below_set (HB.out) GB13.out : Below w.heap.size w w15)); clear HO_6; clear HB; have HO_6 := n0_; have HB := n1_; clear n0_ n1_; clear hg hw hp_)))
                      go_roundg k2
                      case measure => have := HJ2.out; have := HK2.out; omega
                      case rel => exact ⟨(y246), (wrap64 (x7_2 + 1)), (by first | rfl | (simp; done) | (simp [*]; done)), H', ⟨by have := HJ2.out; have := HK2.out; omega⟩, ⟨by (with_reducible repeat (first | apply Kd.R_alloc | apply Kd.R_drewN | apply Kd.R_drew)); exact HO_6.out⟩, ⟨by repeat (first | (with_reducible first | exact HB.out | apply below_alloc | apply pw_below_drewN | apply below_drew1) | exact HB.out)⟩⟩
                    · rw [if_neg c12] at H
                      exact absurd H (by simp)
                  · rw [if_neg c11] at H
                    exact absurd H (by simp)
                · rw [if_neg c10] at H
                  have c10b0 : decide (x7_2 < a0) = false := decide_eq_false c10
                  clear c10
                  have H' := Aside0.mk H
                  clear H
                  go_wp2
                  repeat (go_quiet (fail); try go_wp2)
                  go_loopg [8] k2 (fun kq v8 w' => ∃ (x6_3 : List Int) (x8_3 : Int), v8 = .int .i64 x8_3 ∧ Aside0 (joistref13_Kinds.l1 kq a0 l1 x6_3 x8_3 = some (r1, r2)) ∧ Aside0 (kq ≤ k2) ∧ Aside0 (Kd.R (Kd.int .i64) 3 w' w.heap.size (fun _ => True) v244 x6_3) ∧ Aside0 (Below w.heap.size w w'))
                  case atStart => exact ⟨(x6_2), (0), (by first | rfl | (simp; done) | (simp [*]; done)), H', ⟨Nat.le_refl _⟩, ⟨by (with_reducible repeat (first | apply Kd.R_alloc | apply Kd.R_drewN | apply Kd.R_drew)); exact HO_6.out⟩, ⟨by repeat (first | (with_reducible first | exact HB.out | apply below_alloc | apply pw_below_drewN | apply below_drew1) | exact HB.out)⟩⟩
                  case round =>
                    clear H'
                    try clear c1
                    try clear p1
                    try clear q1
                    try clear hx1
                    try clear p2
                    try clear c3
                    try clear c4
                    try clear c4b0
                    try clear c5
                    try clear c6
                    try clear c6b0
                    try clear c6b1
                    try clear p6
                    try clear c7
                    try clear c7b0
                    try clear c7b1
                    try clear c10
                    try clear c10b0
                    try clear c11
                    try clear c11b0
                    try clear c12
                    try clear c12b0
                    try clear p13
                    try clear q13
                    try clear hx13
                    try clear hf13
                    try clear hx13_0
                    try clear p13
                    try clear p2
                    try clear q13
                    obtain ⟨x6_3, x8_3, rfl, HA, HK3, HO_6, HB⟩ := hrel
                    cases gk with
                    | zero => exact absurd HA.out (by simp [joistref13_Kinds.l1])
                    | succ k3 =>
                      have H := HA.out
                      clear HA
                      simp only [joistref13_Kinds.l1] at H
                      by_cases c16 : x8_3 < (l1.length : Int)
                      · rw [if_pos c16] at H
                        have c16b0 : decide (x8_3 < (l1.length : Int)) = true := decide_eq_true c16
                        clear c16
                        by_cases c17 : 0 ≤ x8_3
                        · rw [if_pos c17] at H
                          have c17b0 : decide (0 ≤ x8_3) = true := decide_eq_true c17
                          clear c17
                          replace H := Option.bind_eq_some_iff.mp H
                          obtain ⟨⟨t248, t249, t250⟩, A180, H⟩ := H
                          replace H : (if t250 = true then ((joistref13_cell.f k3 ((rd_T44 l1 x8_3).f0) ((rd_T44 l1 x8_3).f1)).bind fun bt253 => (if bt253.2.2.2 = true then (if 0 ≤ bt253.1 then (if bt253.1 < (x6_3.length : Int) then (if (rd x6_3 bt253.1) = (-1) then (joistref13_Kinds.j3 k3 a0 l1 x6_3 x8_3 bt253.1 bt253.2.1 false) else (joistref13_Kinds.j3 k3 a0 l1 x6_3 x8_3 bt253.1 bt253.2.1 ((rd x6_3 bt253.1) != bt253.2.1))) else (none)) else (none)) else (joistref13_Kinds.l3 k3 a0 l1 x6_3 x8_3 t248 t248 t249))) else (some (([] : List Int), false))) = some (r1, r2) := H
                          have A18 := Aside0.mk A180
                          clear A180
                          by_cases c19 : t250 = true
                          · subst c19
                            have H1 : ((joistref13_cell.f k3 ((rd_T44 l1 x8_3).f0) ((rd_T44 l1 x8_3).f1)).bind fun bt253 => (if bt253.2.2.2 = true then (if 0 ≤ bt253.1 then (if bt253.1 < (x6_3.length : Int) then (if (rd x6_3 bt253.1) = (-1) then (joistref13_Kinds.j3 k3 a0 l1 x6_3 x8_3 bt253.1 bt253.2.1 false) else (joistref13_Kinds.j3 k3 a0 l1 x6_3 x8_3 bt253.1 bt253.2.1 ((rd x6_3 bt253.1) != bt253.2.1))) else (none)) else (none)) else (joistref13_Kinds.l3 k3 a0 l1 x6_3 x8_3 t248 t248 t249))) = some (r1, r2) := by rw [if_pos rfl] at H; exact H
                            clear H
                            have H := H1
                            clear H1
                            replace H := Option.bind_eq_some_iff.mp H
                            obtain ⟨⟨t253, t254, t255, t256⟩, A200, H⟩ := H
                            replace H : (if t256 = true then (if 0 ≤ t253 then (if t253 < (x6_3.length : Int) then (if (rd x6_3 t253) = (-1) then (joistref13_Kinds.j3 k3 a0 l1 x6_3 x8_3 t253 t254 false) else (joistref13_Kinds.j3 k3 a0 l1 x6_3 x8_3 t253 t254 ((rd x6_3 t253) != t254))) else (none)) else (none)) else (joistref13_Kinds.l3 k3 a0 l1 x6_3 x8_3 t248 t248 t249)) = some (r1, r2) := H
                            have A20 := Aside0.mk A200
                            clear A200
                            by_cases c21 : t256 = true
                            · subst c21
                              have H1 : (if 0 ≤ t253 then (if t253 < (x6_3.length : Int) then (if (rd x6_3 t253) = (-1) then (joistref13_Kinds.j3 k3 a0 l1 x6_3 x8_3 t253 t254 false) else (joistref13_Kinds.j3 k3 a0 l1 x6_3 x8_3 t253 t254 ((rd x6_3 t253) != t254))) else (none)) else (none)) = some (r1, r2) := by rw [if_pos rfl] at H; exact H
                              clear H
                              have H := H1
                              clear H1
                              have HC22 := Aside0.mk H
                              clear H
                              have p247 : 0 ≤ (x8_3 : Int) := of_decide_eq_true (by first | (with_reducible assumption) | assumption)
                              have q247 : x8_3 < (l1.length : Int) := of_decide_eq_true (by first | (with_reducible assumption) | assumption)
                              obtain ⟨ad247, e247, hx247_0, hx247_1⟩ := at_T44 HR1.out x8_3 p247 q247
                              cases e247
                              replace hx247_0 := (HB.out.cell (World.block_lt_of_cell? w _ hx247_0)).trans hx247_0
                              replace hx247_1 := (HB.out.cell (World.block_lt_of_cell? w _ hx247_1)).trans hx247_1
                              replace p247 := eq_true p247
                              replace q247 := eq_true q247
                              go_upto_region 16 with (first | (go_at_call 46; (with_reducible refine (joistref13_span.calls k3 a0 ((rd_T44 l1 x8_3).f0) ((rd_T44 l1 x8_3).f1) t248 t249 true _ A18.out).mono ?_); rintro e w23 ⟨rfl, hb⟩; have n0_ := Aside0.mk (Kd.R_below (by (with_reducible repeat (first | apply Kd.R_alloc | apply Kd.R_drewN | apply Kd.R_drew)); exact HO_6.out) hb); have n1_ := Aside0.mk (below_step (by repeat (first | (with_reducible first | exact HB.out | apply below_alloc | apply pw_below_drewN | apply below_drew1) | exact HB.out)) hb); clear HO_6; clear HB; have HO_6 := n0_; have HB := n1_; clear n0_ n1_; (try clear hb); (try clear hb2); (try clear hk); (try clear hi)) | ((with_reducible refine gate_dst (N := 9) rfl ?_); refine box_event ?hg (N := 9) ?hd (cs := #[.int .i64 0, .int .i64 0]) (t := 48) ?hr ?_; (case hd => rfl); (case hg => rfl); (case hr => first | (go_simp; done) | (go_simp; rfl)); intro gb251 hg w24 hbox hb; have n0_ := Aside0.mk (Kd.R_below (by (with_reducible repeat (first | apply Kd.R_alloc | apply Kd.R_drewN | apply Kd.R_drew)); exact HO_6.out) hb); have n1_ := Aside0.mk (below_step (by repeat (first | (with_reducible first | exact HB.out | apply below_alloc | apply pw_below_drewN | apply below_drew1) | exact HB.out)) hb); have n2_ := Aside0.mk (hbox); have n3_ := Aside0.mk ((by rw [hg]; exact (below_size (by repeat (first | (with_reducible first | exact HB.out | apply below_alloc | apply pw_below_drewN | apply below_drew1) | exact HB.out))) : w.heap.size ≤ gb251)); have n4_ := Aside0.mk ((by rw [hg]; exact (below_size (by repeat (first | (with_reducible first | exact HB.out | apply below_alloc | apply pw_below_drewN | apply below_drew1) | exact HB.out))) : w.heap.size ≤ gb251)); clear HO_6; clear HB; have HO_6 := n0_; have HB := n1_; have BK251 := n2_; have GW251 := n3_; have GE251 := n4_; clear n0_ n1_ n2_ n3_ n4_; clear hb hbox hg; have hcz25_0 : w24.cell? ⟨gb251, 0, none⟩ = some (.int .i64 0) := (blk_cell BK251.out 0).trans rfl; have hcz25_1 : w24.cell? ⟨gb251, 1, none⟩ = some (.int .i64 0) := (blk_cell BK251.out 1).trans rfl; have hfz25_0 := blk_frozen BK251.out 0; have hfz25_1 := blk_frozen BK251.out 1; have p252 : 0 ≤ (x8_3 : Int) := of_decide_eq_true (by first | (with_reducible assumption) | assumption); have q252 : x8_3 < (l1.length : Int) := of_decide_eq_true (by first | (with_reducible assumption) | assumption); obtain ⟨ad252, e252, hx252_0, hx252_1⟩ := at_T44 HR1.out x8_3 p252 q252; obtain rfl : ad247 = ad252 := (by injection e252); have hn252_0 : ad247.block ≠ gb251 := Nat.ne_of_lt (Nat.lt_of_lt_of_le (by have := World.block_lt_of_cell? _ _ hx252_0; first | rwa [add_block] at this | exact this) GW251.out); have hn252_1 : ad247.block ≠ gb251 := Nat.ne_of_lt (Nat.lt_of_lt_of_le (by have := World.block_lt_of_cell? _ _ hx252_0; first | rwa [add_block] at this | exact this) GW251.out); replace hx252_0 := (HB.out.cell (World.block_lt_of_cell? w _ hx252_0)).trans hx252_0; replace hx252_1 := (HB.out.cell (World.block_lt_of_cell? w _ hx252_1)).trans hx252_1; replace hx252_0 := (cell_far (p := ⟨gb251, 0, none⟩) (by first | (rw [add_block]; exact hn252_0) | (show (Addr.add _ _).block ≠ _; rw [add_block]; exact hn252_0) | exact hn252_0) (.int .i64 t248)).trans hx252_0; replace hx252_1 := (cell_far (p := ⟨gb251, 0, none⟩) (by first | (rw [add_block]; exact hn252_0) | (show (Addr.add _ _).block ≠ _; rw [add_block]; exact hn252_0) | exact hn252_0) (.int .i64 t248)).trans hx252_1; replace hx252_0 := (cell_far (p := ⟨gb251, 1, none⟩) (by first | (rw [add_block]; exact hn252_1) | (show (Addr.add _ _).block ≠ _; rw [add_block]; exact hn252_1) | exact hn252_1) (.int .i64 t249)).trans hx252_0; replace hx252_1 := (cell_far (p := ⟨gb251, 1, none⟩) (by first | (rw [add_block]; exact hn252_1) | (show (Addr.add _ _).block ≠ _; rw [add_block]; exact hn252_1) | exact hn252_1) (.int .i64 t249)).trans hx252_1; (try have hy252_0 := fun (n_ : Nat) => (show ((((w24.drewN n_).setCell ⟨gb251, 0, none⟩ (.int .i64 t248)).setCell ⟨gb251, 1, none⟩ (.int .i64 t249))).cell? _ = some _ from hx252_0)); (try have hy252_1 := fun (n_ : Nat) => (show ((((w24.drewN n_).setCell ⟨gb251, 0, none⟩ (.int .i64 t248)).setCell ⟨gb251, 1, none⟩ (.int .i64 t249))).cell? _ = some _ from hx252_1)); clear hn252_0; clear hn252_1; replace p252 := eq_true p252; replace q252 := eq_true q252) | (go_at_call 47; (with_reducible refine (joistref13_cell.calls k3 ((rd_T44 l1 x8_3).f0) ((rd_T44 l1 x8_3).f1) t253 t254 t255 true _ A20.out).mono ?_); rintro e w26 ⟨rfl, hb⟩; have n0_ := Aside0.mk (Kd.R_below (by (with_reducible repeat (first | apply Kd.R_alloc | apply Kd.R_drewN | apply Kd.R_drew)); exact (Kd.R_mono (Kd.R_far (p := ⟨gb251, 1, none⟩) (Kd.R_far (p := ⟨gb251, 0, none⟩) (Kd.R_types HO_6.out BK251.out (by decide)) (fun _ hk => hk.2) (.int .i64 t248)) (fun _ hk => hk.2) (.int .i64 t249)) (fun _ h_ => h_.1))) hb); have n1_ := Aside0.mk (blk_below (g := gb251) (o := .cells #[.int .i64 t248, .int .i64 t249] 48 (0, 0)) (by (with_reducible repeat (first | refine blk_drewN ?_ _ | refine blk_drew ?_ | refine blk_alloc ?_ _)); refine blk_put (cs := #[.int .i64 t248, .int .i64 0]) ?_ 1 _ rfl; (with_reducible repeat (first | refine blk_drewN ?_ _ | refine blk_drew ?_ | refine blk_alloc ?_ _)); refine blk_put (cs := #[.int .i64 0, .int .i64 0]) ?_ 0 _ rfl; (with_reducible repeat (first | refine blk_drewN ?_ _ | refine blk_drew ?_ | refine blk_alloc ?_ _)); exact BK251.out) hb); have n2_ := Aside0.mk (below_step (by repeat (first | (with_reducible first | exact HB.out | apply below_alloc | apply pw_below_drewN | apply below_drew1 | refine below_set ?_ GE251.out) | exact HB.out)) hb); clear HO_6; clear BK251; clear HB; have HO_6 := n0_; have BK251 := n1_; have HB := n2_; clear n0_ n1_ n2_; (try clear hb); (try clear hb2); (try clear hk); (try clear hi)))
                              repeat (go_quiet (fail); go_upto_region 16 with (first | (go_at_call 46; (with_reducible refine (joistref13_span.calls k3 a0 ((rd_T44 l1 x8_3).f0) ((rd_T44 l1 x8_3).f1) t248 t249 true _ A18.out).mono ?_); rintro e w23 ⟨rfl, hb⟩; have n0_ := Aside0.mk (Kd.R_below (by (with_reducible repeat (first | apply Kd.R_alloc | apply Kd.R_drewN | apply Kd.R_drew)); exact HO_6.out) hb); have n1_ := Aside0.mk (below_step (by repeat (first | (with_reducible first | exact HB.out | apply below_alloc | apply pw_below_drewN | apply below_drew1) | exact HB.out)) hb); clear HO_6; clear HB; have HO_6 := n0_; have HB := n1_; clear n0_ n1_; (try clear hb); (try clear hb2); (try clear hk); (try clear hi)) | ((with_reducible refine gate_dst (N := 9) rfl ?_); refine box_event ?hg (N := 9) ?hd (cs := #[.int .i64 0, .int .i64 0]) (t := 48) ?hr ?_; (case hd => rfl); (case hg => rfl); (case hr => first | (go_simp; done) | (go_simp; rfl)); intro gb251 hg w24 hbox hb; have n0_ := Aside0.mk (Kd.R_below (by (with_reducible repeat (first | apply Kd.R_alloc | apply Kd.R_drewN | apply Kd.R_drew)); exact HO_6.out) hb); have n1_ := Aside0.mk (below_step (by repeat (first | (with_reducible first | exact HB.out | apply below_alloc | apply pw_below_drewN | apply below_drew1) | exact HB.out)) hb); have n2_ := Aside0.mk (hbox); have n3_ := Aside0.mk ((by rw [hg]; exact (below_size (by repeat (first | (with_reducible first | exact HB.out | apply below_alloc | apply pw_below_drewN | apply below_drew1) | exact HB.out))) : w.heap.size ≤ gb251)); have n4_ := Aside0.mk ((by rw [hg]; exact (below_size (by repeat (first | (with_reducible first | exact HB.out | apply below_alloc | apply pw_below_drewN | apply below_drew1) | exact HB.out))) : w.heap.size ≤ gb251)); clear HO_6; clear HB; have HO_6 := n0_; have HB := n1_; have BK251 := n2_; have GW251 := n3_; have GE251 := n4_; clear n0_ n1_ n2_ n3_ n4_; clear hb hbox hg; have hcz25_0 : w24.cell? ⟨gb251, 0, none⟩ = some (.int .i64 0) := (blk_cell BK251.out 0).trans rfl; have hcz25_1 : w24.cell? ⟨gb251, 1, none⟩ = some (.int .i64 0) := (blk_cell BK251.out 1).trans rfl; have hfz25_0 := blk_frozen BK251.out 0; have hfz25_1 := blk_frozen BK251.out 1; have p252 : 0 ≤ (x8_3 : Int) := of_decide_eq_true (by first | (with_reducible assumption) | assumption); have q252 : x8_3 < (l1.length : Int) := of_decide_eq_true (by first | (with_reducible assumption) | assumption); obtain ⟨ad252, e252, hx252_0, hx252_1⟩ := at_T44 HR1.out x8_3 p252 q252; obtain rfl : ad247 = ad252 := (by injection e252); have hn252_0 : ad247.block ≠ gb251 := Nat.ne_of_lt (Nat.lt_of_lt_of_le (by have := World.block_lt_of_cell? _ _ hx252_0; first | rwa [add_block] at this | exact this) GW251.out); have hn252_1 : ad247.block ≠ gb251 := Nat.ne_of_lt (Nat.lt_of_lt_of_le (by have := World.block_lt_of_cell? _ _ hx252_0; first | rwa [add_block] at this | exact this) GW251.out); replace hx252_0 := (HB.out.cell (World.block_lt_of_cell? w _ hx252_0)).trans hx252_0; replace hx252_1 := (HB.out.cell (World.block_lt_of_cell? w _ hx252_1)).trans hx252_1; replace hx252_0 := (cell_far (p := ⟨gb251, 0, none⟩) (by first | (rw [add_block]; exact hn252_0) | (show (Addr.add _ _).block ≠ _; rw [add_block]; exact hn252_0) | exact hn252_0) (.int .i64 t248)).trans hx252_0; replace hx252_1 := (cell_far (p := ⟨gb251, 0, none⟩) (by first | (rw [add_block]; exact hn252_0) | (show (Addr.add _ _).block ≠ _; rw [add_block]; exact hn252_0) | exact hn252_0) (.int .i64 t248)).trans hx252_1; replace hx252_0 := (cell_far (p := ⟨gb251, 1, none⟩) (by first | (rw [add_block]; exact hn252_1) | (show (Addr.add _ _).block ≠ _; rw [add_block]; exact hn252_1) | exact hn252_1) (.int .i64 t249)).trans hx252_0; replace hx252_1 := (cell_far (p := ⟨gb251, 1, none⟩) (by first | (rw [add_block]; exact hn252_1) | (show (Addr.add _ _).block ≠ _; rw [add_block]; exact hn252_1) | exact hn252_1) (.int .i64 t249)).trans hx252_1; (try have hy252_0 := fun (n_ : Nat) => (show ((((w24.drewN n_).setCell ⟨gb251, 0, none⟩ (.int .i64 t248)).setCell ⟨gb251, 1, none⟩ (.int .i64 t249))).cell? _ = some _ from hx252_0)); (try have hy252_1 := fun (n_ : Nat) => (show ((((w24.drewN n_).setCell ⟨gb251, 0, none⟩ (.int .i64 t248)).setCell ⟨gb251, 1, none⟩ (.int .i64 t249))).cell? _ = some _ from hx252_1)); clear hn252_0; clear hn252_1; replace p252 := eq_true p252; replace q252 := eq_true q252) | (go_at_call 47; (with_reducible refine (joistref13_cell.calls k3 ((rd_T44 l1 x8_3).f0) ((rd_T44 l1 x8_3).f1) t253 t254 t255 true _ A20.out).mono ?_); rintro e w26 ⟨rfl, hb⟩; have n0_ := Aside0.mk (Kd.R_below (by (with_reducible repeat (first | apply Kd.R_alloc | apply Kd.R_drewN | apply Kd.R_drew)); exact (Kd.R_mono (Kd.R_far (p := ⟨gb251, 1, none⟩) (Kd.R_far (p := ⟨gb251, 0, none⟩) (Kd.R_types HO_6.out BK251.out (by decide)) (fun _ hk => hk.2) (.int .i64 t248)) (fun _ hk => hk.2) (.int .i64 t249)) (fun _ h_ => h_.1))) hb); have n1_ := Aside0.mk (blk_below (g := gb251) (o := .cells #[.int .i64 t248, .int .i64 t249] 48 (0, 0)) (by (with_reducible repeat (first | refine blk_drewN ?_ _ | refine blk_drew ?_ | refine blk_alloc ?_ _)); refine blk_put (cs := #[.int .i64 t248, .int .i64 0]) ?_ 1 _ rfl; (with_reducible repeat (first | refine blk_drewN ?_ _ | refine blk_drew ?_ | refine blk_alloc ?_ _)); refine blk_put (cs := #[.int .i64 0, .int .i64 0]) ?_ 0 _ rfl; (with_reducible repeat (first | refine blk_drewN ?_ _ | refine blk_drew ?_ | refine blk_alloc ?_ _)); exact BK251.out) hb); have n2_ := Aside0.mk (below_step (by repeat (first | (with_reducible first | exact HB.out | apply below_alloc | apply pw_below_drewN | apply below_drew1 | refine below_set ?_ GE251.out) | exact HB.out)) hb); clear HO_6; clear BK251; clear HB; have HO_6 := n0_; have BK251 := n1_; have HB := n2_; clear n0_ n1_ n2_; (try clear hb); (try clear hb2); (try clear hk); (try clear hi))))
                              (try simp only [Act.put, List.setIfInBounds_toArray, List.set_cons_zero, List.set_cons_succ])
                              go_cut [73] (fun v73 wc => ∃ (kq : Nat) (x73_21 : Bool), v73 = .bool x73_21 ∧ Aside0 (joistref13_Kinds.j3 kq a0 l1 x6_3 x8_3 t253 t254 x73_21 = some (r1, r2)) ∧ Aside0 (kq ≤ k3) ∧ Aside0 (Kd.R (Kd.int .i64) 3 wc w.heap.size (fun _ => True) v244 x6_3) ∧ Aside0 (wc.heap[gb251]? = some (.cells #[.int .i64 t248, .int .i64 t249] 48 (0, 0))) ∧ Aside0 (Below w.heap.size w wc))
                              case first =>
                                have H := HC22.out
                                clear HC22
                                by_cases c27 : 0 ≤ t253
                                · rw [if_pos c27] at H
                                  have c27b0 : decide (0 ≤ t253) = true := decide_eq_true c27
                                  clear c27
                                  (first | rw [c27b0] | (simp only [i64_w, i32_w]; rw [c27b0]) | skip)
                                  by_cases c28 : t253 < (x6_3.length : Int)
                                  · rw [if_pos c28] at H
                                    have c28b0 : decide (t253 < (x6_3.length : Int)) = true := decide_eq_true c28
                                    clear c28
                                    by_cases c29 : (rd x6_3 t253) = (-1)
                                    · rw [if_pos c29] at H
                                      have c29b0 : ((rd x6_3 t253) == (-1)) = true := beq_iff_eq.mpr c29
                                      have c29b1 : ((rd x6_3 t253) != (-1)) = false := bne_eq_false_iff_eq.mpr c29
                                      clear c29
                                      have H' := Aside0.mk H
                                      clear H
                                      obtain ⟨Ao30, co30, eo30⟩ := Kd.R_slice HO_6.out
                                      subst eo30
                                      have p257 : 0 ≤ (t253 : Int) := of_decide_eq_true (by first | (with_reducible assumption) | assumption)
                                      have q257 : t253 < (x6_3.length : Int) := of_decide_eq_true (by first | (with_reducible assumption) | assumption)
                                      obtain ⟨ad257, e257, hx257_0⟩ := Kd.at_int (Kd.R_reads' HO_6.out).2.2 t253 p257 q257
                                      cases e257
                                      replace p257 := eq_true p257
                                      replace q257 := eq_true q257
                                      go_wp2
                                      repeat (go_quiet (fail); try go_wp2)
                                      go_meet
                                      case rel => exact ⟨_, (false), (by first | rfl | (simp; done) | (simp [*]; done)), H', ⟨by have := HJ2.out; have := HK2.out; have := HK3.out; first | omega | exact Nat.le_refl _⟩, ⟨by (with_reducible repeat (first | apply Kd.R_alloc | apply Kd.R_drewN | apply Kd.R_drew)); exact HO_6.out⟩, ⟨by (with_reducible repeat (first | refine blk_drewN ?_ _ | refine blk_drew ?_ | refine blk_alloc ?_ _)); exact BK251.out⟩, ⟨by repeat (first | (with_reducible first | exact HB.out | apply below_alloc | apply pw_below_drewN | apply below_drew1 | refine below_set ?_ GE251.out) | exact HB.out)⟩⟩
                                    · rw [if_neg c29] at H
                                      have c29b0 : ((rd x6_3 t253) == (-1)) = false := beq_eq_false_iff_ne.mpr c29
                                      have c29b1 : ((rd x6_3 t253) != (-1)) = true := bne_iff_ne.mpr c29
                                      have H' := Aside0.mk H
                                      clear H
                                      obtain ⟨Ao31, co31, eo31⟩ := Kd.R_slice HO_6.out
                                      subst eo31
                                      have p257 : 0 ≤ (t253 : Int) := of_decide_eq_true (by first | (with_reducible assumption) | assumption)
                                      have q257 : t253 < (x6_3.length : Int) := of_decide_eq_true (by first | (with_reducible assumption) | assumption)
                                      obtain ⟨ad257, e257, hx257_0⟩ := Kd.at_int (Kd.R_reads' HO_6.out).2.2 t253 p257 q257
                                      cases e257
                                      replace p257 := eq_true p257
                                      replace q257 := eq_true q257
                                      have p258 : 0 ≤ (t253 : Int) := of_decide_eq_true (by first | (with_reducible assumption) | assumption)
                                      have q258 : t253 < (x6_3.length : Int) := of_decide_eq_true (by first | (with_reducible assumption) | assumption)
                                      obtain ⟨ad258, e258, hx258_0⟩ := Kd.at_int (Kd.R_reads' HO_6.out).2.2 t253 p258 q258
                                      obtain rfl : ad257 = ad258 := (by injection e258)
                                      replace p258 := eq_true p258
                                      replace q258 := eq_true q258
                                      go_wp2
                                      repeat (go_quiet (fail); try go_wp2)
                                      go_meet
                                      case rel => exact ⟨_, (((rd x6_3 t253) != t254)), (by first | rfl | (simp; done) | (simp [*]; done)), H', ⟨by have := HJ2.out; have := HK2.out; have := HK3.out; first | omega | exact Nat.le_refl _⟩, ⟨by (with_reducible repeat (first | apply Kd.R_alloc | apply Kd.R_drewN | apply Kd.R_drew)); exact HO_6.out⟩, ⟨by (with_reducible repeat (first | refine blk_drewN ?_ _ | refine blk_drew ?_ | refine blk_alloc ?_ _)); exact BK251.out⟩, ⟨by repeat (first | (with_reducible first | exact HB.out | apply below_alloc | apply pw_below_drewN | apply below_drew1 | refine below_set ?_ GE251.out) | exact HB.out)⟩⟩
                                  · rw [if_neg c28] at H
                                    exact absurd H (by simp)
                                · rw [if_neg c27] at H
                                  exact absurd H (by simp)
                              case rest =>
                                clear HC22
                                try clear c1
                                try clear p1
                                try clear q1
                                try clear hx1
                                try clear c2
                                try clear p2
                                try clear q2
                                try clear hx2
                                try clear c3
                                try clear c4
                                try clear c4b0
                                try clear c5
                                try clear c6
                                try clear c6b0
                                try clear c6b1
                                try clear p6
                                try clear c7
                                try clear c7b0
                                try clear c7b1
                                try clear c10
                                try clear c10b0
                                try clear c11
                                try clear c11b0
                                try clear c12
                                try clear c12b0
                                try clear p13
                                try clear q13
                                try clear hx13
                                try clear hf13
                                try clear c16
                                try clear c16b0
                                try clear c17
                                try clear c17b0
                                try clear c19
                                try clear c21
                                try clear p24
                                try clear q24
                                try clear hx24
                                try clear p25
                                try clear q25
                                try clear hx25
                                try clear c27
                                try clear c27b0
                                try clear c28
                                try clear c28b0
                                try clear c29
                                try clear c29b0
                                try clear c29b1
                                try clear hcz25_0
                                try clear hcz25_1
                                try clear hfz25_0
                                try clear hfz25_1
                                try clear hx13_0
                                try clear hx247_0
                                try clear hx247_1
                                try clear hx252_0
                                try clear hx252_1
                                try clear hx257_0
                                try clear hx258_0
                                try clear p1
                                try clear p13
                                try clear p2
                                try clear p247
                                try clear p252
                                try clear p257
                                try clear p258
                                try clear p6
                                try clear q1
                                try clear q13
                                try clear q247
                                try clear q252
                                try clear q257
                                try clear q258
                                obtain ⟨kq, x73_21, rfl, HA, HJ21, HO_6, BK251, HB⟩ := hcut
                                cases kq with
                                | zero => exact absurd HA.out (by simp [joistref13_Kinds.j3])
                                | succ kj21 =>
                                  have H := HA.out
                                  clear HA
                                  simp only [joistref13_Kinds.j3] at H
                                  by_cases c32 : x73_21 = true
                                  · subst c32
                                    have H1 : (some (([] : List Int), false)) = some (r1, r2) := by rw [if_pos rfl] at H; exact H
                                    clear H
                                    have H := H1
                                    clear H1
                                    simp only [Option.some.injEq, Prod.mk.injEq] at H
                                    obtain ⟨rfl, rfl⟩ := H
                                    go_wp2
                                    repeat (go_quiet (fail); try go_wp2)
                                    go_ret2
                                    exact ⟨_, by first | rfl | (simp [errW_none, errW_some] <;> rfl) | (simp [*, errW_none, errW_some] <;> rfl), by first | exact Kd.R_nil _ _ _ _ _ | exact Kd.N_nil _ _ _ _ _ | exact Kd.V_nil _ _ _ _ _ | exact Kd.Q_nil _ _ _ _ _ | exact Kd.S_nil _ _ _ _ _, by repeat (first | (with_reducible first | exact HB.out | apply below_alloc | apply pw_below_drewN | apply below_drew1 | refine below_set ?_ GE251.out) | exact HB.out)⟩
                                  · replace c32 := Bool.eq_false_iff.mpr c32
                                    subst c32
                                    have H1 : (joistref13_Kinds.l2 kj21 a0 l1 x6_3 x8_3 t253 t254 0) = some (r1, r2) := by rw [if_neg (show ¬ (false = true) by decide)] at H; exact H
                                    clear H
                                    have H := H1
                                    clear H1
                                    have H' := Aside0.mk H
                                    clear H
                                    go_wp2
                                    repeat (go_quiet (fail); try go_wp2)
                                    go_loopg [15] kj21 (fun kq v15 w' => ∃ (x15_5 : Int), v15 = .int .i64 x15_5 ∧ Aside0 (joistref13_Kinds.l2 kq a0 l1 x6_3 x8_3 t253 t254 x15_5 = some (r1, r2)) ∧ Aside0 (kq ≤ kj21) ∧ Aside0 (Kd.R (Kd.int .i64) 3 w' w.heap.size (fun _ => True) v244 x6_3) ∧ Aside0 (w'.heap[gb251]? = some (.cells #[.int .i64 t248, .int .i64 t249] 48 (0, 0))) ∧ Aside0 (Below w.heap.size w w'))
                                    case atStart => exact ⟨(0), (by first | rfl | (simp; done) | (simp [*]; done)), H', ⟨Nat.le_refl _⟩, ⟨by (with_reducible repeat (first | apply Kd.R_alloc | apply Kd.R_drewN | apply Kd.R_drew)); exact HO_6.out⟩, ⟨by (with_reducible repeat (first | refine blk_drewN ?_ _ | refine blk_drew ?_ | refine blk_alloc ?_ _)); exact BK251.out⟩, ⟨by repeat (first | (with_reducible first | exact HB.out | apply below_alloc | apply pw_below_drewN | apply below_drew1 | refine below_set ?_ GE251.out) | exact HB.out)⟩⟩
                                    case round =>
                                      clear H'
                                      try clear c1
                                      try clear p1
                                      try clear q1
                                      try clear hx1
                                      try clear c2
                                      try clear p2
                                      try clear q2
                                      try clear hx2
                                      try clear c3
                                      try clear c4
                                      try clear c4b0
                                      try clear c5
                                      try clear c6
                                      try clear c6b0
                                      try clear c6b1
                                      try clear p6
                                      try clear c7
                                      try clear c7b0
                                      try clear c7b1
                                      try clear c10
                                      try clear c10b0
                                      try clear c11
                                      try clear c11b0
                                      try clear c12
                                      try clear c12b0
                                      try clear p13
                                      try clear q13
                                      try clear hx13
                                      try clear hf13
                                      try clear c16
                                      try clear c16b0
                                      try clear c17
                                      try clear c17b0
                                      try clear c19
                                      try clear c21
                                      try clear p24
                                      try clear q24
                                      try clear hx24
                                      try clear p25
                                      try clear q25
                                      try clear hx25
                                      try clear c27
                                      try clear c27b0
                                      try clear c28
                                      try clear c28b0
                                      try clear c29
                                      try clear c29b0
                                      try clear c29b1
                                      try clear c32
                                      try clear hcz25_0
                                      try clear hcz25_1
                                      try clear hfz25_0
                                      try clear hfz25_1
                                      try clear hx13_0
                                      try clear hx247_0
                                      try clear hx247_1
                                      try clear hx252_0
                                      try clear hx252_1
                                      try clear hx257_0
                                      try clear hx258_0
                                      try clear p1
                                      try clear p13
                                      try clear p2
                                      try clear p24
                                      try clear p247
                                      try clear p25
                                      try clear p252
                                      try clear p257
                                      try clear p258
                                      try clear p6
                                      try clear q1
                                      try clear q13
                                      try clear q2
                                      try clear q24
                                      try clear q247
                                      try clear q25
                                      try clear q252
                                      try clear q257
                                      try clear q258
                                      obtain ⟨x15_5, rfl, HA, HK5, HO_6, BK251, HB⟩ := hrel
                                      cases gk with
                                      | zero => exact absurd HA.out (by simp [joistref13_Kinds.l2])
                                      | succ k5 =>
                                        have H := HA.out
                                        clear HA
                                        simp only [joistref13_Kinds.l2] at H
                                        by_cases c33 : x15_5 < x8_3
                                        · rw [if_pos c33] at H
                                          have c33b0 : decide (x15_5 < x8_3) = true := decide_eq_true c33
                                          clear c33
                                          by_cases c34 : 0 ≤ x15_5
                                          · rw [if_pos c34] at H
                                            have c34b0 : decide (0 ≤ x15_5) = true := decide_eq_true c34
                                            clear c34
                                            by_cases c35 : x15_5 < (l1.length : Int)
                                            · rw [if_pos c35] at H
                                              have c35b0 : decide (x15_5 < (l1.length : Int)) = true := decide_eq_true c35
                                              clear c35
                                              by_cases c36 : 0 ≤ x8_3
                                              · rw [if_pos c36] at H
                                                have c36b0 : decide (0 ≤ x8_3) = true := decide_eq_true c36
                                                clear c36
                                                by_cases c37 : x8_3 < (l1.length : Int)
                                                · rw [if_pos c37] at H
                                                  have c37b0 : decide (x8_3 < (l1.length : Int)) = true := decide_eq_true c37
                                                  clear c37
                                                  by_cases c38 : ((rd_T44 l1 x15_5).f0) = ((rd_T44 l1 x8_3).f0)
                                                  · rw [if_pos c38] at H
                                                    have c38b0 : (((rd_T44 l1 x15_5).f0) == ((rd_T44 l1 x8_3).f0)) = true := beq_iff_eq.mpr c38
                                                    have c38b1 : (((rd_T44 l1 x15_5).f0) != ((rd_T44 l1 x8_3).f0)) = false := bne_eq_false_iff_eq.mpr c38
                                                    clear c38
                                                    simp only [Option.some.injEq, Prod.mk.injEq] at H
                                                    obtain ⟨rfl, rfl⟩ := H
                                                    have p259 : 0 ≤ (x15_5 : Int) := of_decide_eq_true (by first | (with_reducible assumption) | assumption)
                                                    have q259 : x15_5 < (l1.length : Int) := of_decide_eq_true (by first | (with_reducible assumption) | assumption)
                                                    obtain ⟨ad259, e259, hx259_0, hx259_1⟩ := at_T44 HR1.out x15_5 p259 q259
                                                    obtain rfl : ad247 = ad259 := (by injection e259)
                                                    replace hx259_0 := (HB.out.cell (World.block_lt_of_cell? w _ hx259_0)).trans hx259_0
                                                    replace hx259_1 := (HB.out.cell (World.block_lt_of_cell? w _ hx259_1)).trans hx259_1
                                                    replace p259 := eq_true p259
                                                    replace q259 := eq_true q259
                                                    have p260 : 0 ≤ (x8_3 : Int) := of_decide_eq_true (by first | (with_reducible assumption) | assumption)
                                                    have q260 : x8_3 < (l1.length : Int) := of_decide_eq_true (by first | (with_reducible assumption) | assumption)
                                                    obtain ⟨ad260, e260, hx260_0, hx260_1⟩ := at_T44 HR1.out x8_3 p260 q260
                                                    obtain rfl : ad247 = ad260 := (by injection e260)
                                                    replace hx260_0 := (HB.out.cell (World.block_lt_of_cell? w _ hx260_0)).trans hx260_0
                                                    replace hx260_1 := (HB.out.cell (World.block_lt_of_cell? w _ hx260_1)).trans hx260_1
                                                    replace p260 := eq_true p260
                                                    replace q260 := eq_true q260
                                                    go_wp2
                                                    repeat (go_quiet (fail); try go_wp2)
                                                    go_ret2
                                                    exact ⟨_, by first | rfl | (simp [errW_none, errW_some] <;> rfl) | (simp [*, errW_none, errW_some] <;> rfl), by first | exact Kd.R_nil _ _ _ _ _ | exact Kd.N_nil _ _ _ _ _ | exact Kd.V_nil _ _ _ _ _ | exact Kd.Q_nil _ _ _ _ _ | exact Kd.S_nil _ _ _ _ _, by repeat (first | (with_reducible first | exact HB.out | apply below_alloc | apply pw_below_drewN | apply below_drew1 | refine below_set ?_ GE251.out) | exact HB.out)⟩
                                                  · rw [if_neg c38] at H
                                                    have c38b0 : (((rd_T44 l1 x15_5).f0) == ((rd_T44 l1 x8_3).f0)) = false := beq_eq_false_iff_ne.mpr c38
                                                    have c38b1 : (((rd_T44 l1 x15_5).f0) != ((rd_T44 l1 x8_3).f0)) = true := bne_iff_ne.mpr c38
                                                    have H' := Aside0.mk H
                                                    clear H
                                                    have p259 : 0 ≤ (x15_5 : Int) := of_decide_eq_true (by first | (with_reducible assumption) | assumption)
                                                    have q259 : x15_5 < (l1.length : Int) := of_decide_eq_true (by first | (with_reducible assumption) | assumption)
                                                    obtain ⟨ad259, e259, hx259_0, hx259_1⟩ := at_T44 HR1.out x15_5 p259 q259
                                                    obtain rfl : ad247 = ad259 := (by injection e259)
                                                    replace hx259_0 := (HB.out.cell (World.block_lt_of_cell? w _ hx259_0)).trans hx259_0
                                                    replace hx259_1 := (HB.out.cell (World.block_lt_of_cell? w _ hx259_1)).trans hx259_1
                                                    replace p259 := eq_true p259
                                                    replace q259 := eq_true q259
                                                    have p260 : 0 ≤ (x8_3 : Int) := of_decide_eq_true (by first | (with_reducible assumption) | assumption)
                                                    have q260 : x8_3 < (l1.length : Int) := of_decide_eq_true (by first | (with_reducible assumption) | assumption)
                                                    obtain ⟨ad260, e260, hx260_0, hx260_1⟩ := at_T44 HR1.out x8_3 p260 q260
                                                    obtain rfl : ad247 = ad260 := (by injection e260)
                                                    replace hx260_0 := (HB.out.cell (World.block_lt_of_cell? w _ hx260_0)).trans hx260_0
                                                    replace hx260_1 := (HB.out.cell (World.block_lt_of_cell? w _ hx260_1)).trans hx260_1
                                                    replace p260 := eq_true p260
                                                    replace q260 := eq_true q260
                                                    go_wp2
                                                    repeat (go_quiet (fail); try go_wp2)
                                                    go_roundg k5
                                                    case measure => have := HJ2.out; have := HK2.out; have := HK3.out; have := HJ21.out; have := HK5.out; omega
                                                    case rel => exact ⟨(wrap64 (x15_5 + 1)), (by first | rfl | (simp; done) | (simp [*]; done)), H', ⟨by have := HJ2.out; have := HK2.out; have := HK3.out; have := HJ21.out; have := HK5.out; omega⟩, ⟨by (with_reducible repeat (first | apply Kd.R_alloc | apply Kd.R_drewN | apply Kd.R_drew)); exact HO_6.out⟩, ⟨by (with_reducible repeat (first | refine blk_drewN ?_ _ | refine blk_drew ?_ | refine blk_alloc ?_ _)); exact BK251.out⟩, ⟨by repeat (first | (with_reducible first | exact HB.out | apply below_alloc | apply pw_below_drewN | apply below_drew1 | refine below_set ?_ GE251.out) | exact HB.out)⟩⟩
                                                · rw [if_neg c37] at H
                                                  exact absurd H (by simp)
                                              · rw [if_neg c36] at H
                                                exact absurd H (by simp)
                                            · rw [if_neg c35] at H
                                              exact absurd H (by simp)
                                          · rw [if_neg c34] at H
                                            exact absurd H (by simp)
                                        · rw [if_neg c33] at H
                                          have c33b0 : decide (x15_5 < x8_3) = false := decide_eq_false c33
                                          clear c33
                                          by_cases c39 : 0 ≤ t253
                                          · rw [if_pos c39] at H
                                            have c39b0 : decide (0 ≤ t253) = true := decide_eq_true c39
                                            clear c39
                                            by_cases c40 : t253 < (x6_3.length : Int)
                                            · rw [if_pos c40] at H
                                              have c40b0 : decide (t253 < (x6_3.length : Int)) = true := decide_eq_true c40
                                              clear c40
                                              obtain ⟨y261, hy261⟩ : ∃ y_ : List Int, y_ = (x6_3.set (t253 : Int).toNat t254) := ⟨_, rfl⟩
                                              replace H : (joistref13_Kinds.l1 k5 a0 l1 y261 (wrap64 (x8_3 + 1))) = some (r1, r2) := by first | (rw [hy261]; with_reducible exact H) | (have H2_ := (Option.bind_some _ _).symm.trans H; rw [hy261]; with_reducible exact H2_) | (have H2_ := (Option.bind_some _ _).symm.trans H; with_reducible exact H2_) | with_reducible exact H | (rw [hy261]; exact H) | exact H
                                              have Ny261 := Aside0.mk hy261
                                              clear hy261
                                              have H' := Aside0.mk H
                                              clear H
                                              have p41 : 0 ≤ (t253 : Int) := of_decide_eq_true (by first | (with_reducible assumption) | assumption)
                                              have q41 : (t253 : Int) < ((x6_3.length : Int) : Int) := of_decide_eq_true (by first | (with_reducible assumption) | assumption)
                                              obtain ⟨go41, co41, eo41, gb41, gl41, cl41, HG41⟩ := Kd.R_form HO_6.out (by omega)
                                              (first | cases eo41 | (injection eo41 with ea_ en_ ec_; (first | subst ea_ | (injection ea_ with ea_; subst ea_)); subst ec_; clear en_))
                                              have GB41 := Aside0.mk gb41
                                              have GG41 := Aside0.mk HG41
                                              clear gb41 gl41 HG41
                                              obtain ⟨hx41_0, hf41_0⟩ := Kd.R_celln 0 HO_6.out (t253 : Int) p41 q41
                                              replace p41 := eq_true p41
                                              replace q41 := eq_true q41
                                              have HP42 := Kd.R_putg HO_6.out (t253 : Int) t254
                                              go_wp2_with (first | ((with_reducible refine gate_store (t := 3) (p := 93) rfl ?_); (try (rw [drewN_self wr]; generalize hq_ : World.drewN wr _ = wr; have n0_ := Aside0.mk (Kd.R_at hq_ HO_6.out); have n1_ := Aside0.mk (blk_at hq_ BK251.out); have n2_ := Aside0.mk (below_at hq_ HB.out); clear hq_ HO_6 BK251 HB; have HO_6 := n0_; have BK251 := n1_; have HB := n2_; clear n0_ n1_ n2_; (try (have HP42 := Kd.R_putg HO_6.out (t253 : Int) t254)))); refine store_event (t := 3) (p := 93) (v := ?vo_w43) (w1 := (wr.setCell ⟨go41, (t253 : Int).toNat, none⟩ (.int .i64 t254))) ?hg ?ho ?hn ?hr ?_; (case ho => rfl); (case hg => rfl); (case hn => rfl); (case hr => first | (go_simp; done) | (go_simp; rfl)); intro w43 hw; have hg : wr.grownBy w43 (some go41) := (by rw [hw]; exact HP42.2); have hp_ : Kd.R (Kd.int .i64) 3 w43 w.heap.size (fun _ => True) (.slice (some ⟨go41, 0, none⟩) x6_3.length co41) y261 := (by rw [hw, Ny261.out]; exact HP42.1); clear HP42; have n0_ := Aside0.mk (hp_); have n1_ := Aside0.mk (blk_grown (g := gb251) (o := .cells #[.int .i64 t248, .int .i64 t249] 48 (0, 0)) (by (with_reducible repeat (first | refine blk_drewN ?_ _ | refine blk_drew ?_ | refine blk_alloc ?_ _)); exact BK251.out) hg (Kd.R_ne HO_6.out BK251.out (by decide))); have n2_ := Aside0.mk ((by rw [hw]; exact below_set (HB.out) GB41.out : Below w.heap.size w w43)); clear HO_6; clear BK251; clear HB; have HO_6 := n0_; have BK251 := n1_; have HB := n2_; clear n0_ n1_ n2_; clear hg hw hp_))
                                              repeat (go_quiet (fail); try go_wp2_with (first | ((with_reducible refine gate_store (t := 3) (p := 93) rfl ?_); (try (rw [drewN_self wr]; generalize hq_ : World.drewN wr _ = wr; have n0_ := Aside0.mk (Kd.R_at hq_ HO_6.out); have n1_ := Aside0.mk (blk_at hq_ BK251.out); have n2_ := Aside0.mk (below_at hq_ HB.out); clear hq_ HO_6 BK251 HB; have HO_6 := n0_; have BK251 := n1_; have HB := n2_; clear n0_ n1_ n2_; (try (have HP42 := Kd.R_putg HO_6.out (t253 : Int) t254)))); refine store_event (t := 3) (p := 93) (v := ?vo_w43) (w1 := (wr.setCell ⟨go41, (t253 : Int).toNat, none⟩ (.int .i64 t254))) ?hg ?ho ?hn ?hr ?_; (case ho => rfl); (case hg => rfl); (case hn => rfl); (case hr => first | (go_simp; done) | (go_simp; rfl)); intro w43 hw; have hg : wr.grownBy w43 (some go41) := (by rw [hw]; exact HP42.2); have hp_ : Kd.R (Kd.int .i64) 3 w43 w.heap.size (fun _ => True) (.slice (some ⟨go41, 0, none⟩) x6_3.length co41) y261 := (by rw [hw, Ny261.out]; exact HP42.1); clear HP42; have n0_ := Aside0.mk (hp_); have n1_ := Aside0.mk (blk_grown (g := gb251) (o := .cells #[.int .i64 t248, .int .i64 t249] 48 (0, 0)) (by (with_reducible repeat (first | refine blk_drewN ?_ _ | refine blk_drew ?_ | refine blk_alloc ?_ _)); exact BK251.out) hg (Kd.R_ne HO_6.out BK251.out (by decide))); have n2_ := Aside0.mk ((by rw [hw]; exact below_set (HB.out) GB41.out : Below w.heap.size w w43)); clear HO_6; clear BK251; clear HB; have HO_6 := n0_; have BK251 := n1_; have HB := n2_; clear n0_ n1_ n2_; clear hg hw hp_)))
                                              go_roundg k5
                                              case measure => have := HJ2.out; have := HK2.out; have := HK3.out; have := HJ21.out; have := HK5.out; omega
                                              case rel => exact ⟨(y261), (wrap64 (x8_3 + 1)), (by first | rfl | (simp; done) | (simp [*]; done)), H', ⟨by have := HJ2.out; have := HK2.out; have := HK3.out; have := HJ21.out; have := HK5.out; omega⟩, ⟨by (with_reducible repeat (first | apply Kd.R_alloc | apply Kd.R_drewN | apply Kd.R_drew)); exact HO_6.out⟩, ⟨by repeat (first | (with_reducible first | exact HB.out | apply below_alloc | apply pw_below_drewN | apply below_drew1 | refine below_set ?_ GE251.out) | exact HB.out)⟩⟩
                                            · rw [if_neg c40] at H
                                              exact absurd H (by simp)
                                          · rw [if_neg c39] at H
                                            exact absurd H (by simp)
                            · replace c21 := Bool.eq_false_iff.mpr c21
                              subst c21
                              have H1 : (joistref13_Kinds.l3 k3 a0 l1 x6_3 x8_3 t248 t248 t249) = some (r1, r2) := by rw [if_neg (show ¬ (false = true) by decide)] at H; exact H
                              clear H
                              have H := H1
                              clear H1
                              have H' := Aside0.mk H
                              clear H
                              have p247 : 0 ≤ (x8_3 : Int) := of_decide_eq_true (by first | (with_reducible assumption) | assumption)
                              have q247 : x8_3 < (l1.length : Int) := of_decide_eq_true (by first | (with_reducible assumption) | assumption)
                              obtain ⟨ad247, e247, hx247_0, hx247_1⟩ := at_T44 HR1.out x8_3 p247 q247
                              cases e247
                              replace hx247_0 := (HB.out.cell (World.block_lt_of_cell? w _ hx247_0)).trans hx247_0
                              replace hx247_1 := (HB.out.cell (World.block_lt_of_cell? w _ hx247_1)).trans hx247_1
                              replace p247 := eq_true p247
                              replace q247 := eq_true q247
                              go_wp2_with (first | (go_at_call 46; (with_reducible refine (joistref13_span.calls k3 a0 ((rd_T44 l1 x8_3).f0) ((rd_T44 l1 x8_3).f1) t248 t249 true _ A18.out).mono ?_); rintro e w44 ⟨rfl, hb⟩; have n0_ := Aside0.mk (Kd.R_below (by (with_reducible repeat (first | apply Kd.R_alloc | apply Kd.R_drewN | apply Kd.R_drew)); exact HO_6.out) hb); have n1_ := Aside0.mk (below_step (by repeat (first | (with_reducible first | exact HB.out | apply below_alloc | apply pw_below_drewN | apply below_drew1) | exact HB.out)) hb); clear HO_6; clear HB; have HO_6 := n0_; have HB := n1_; clear n0_ n1_; (try clear hb); (try clear hb2); (try clear hk); (try clear hi)) | ((with_reducible refine gate_dst (N := 9) rfl ?_); refine box_event ?hg (N := 9) ?hd (cs := #[.int .i64 0, .int .i64 0]) (t := 48) ?hr ?_; (case hd => rfl); (case hg => rfl); (case hr => first | (go_simp; done) | (go_simp; rfl)); intro gb251 hg w45 hbox hb; have n0_ := Aside0.mk (Kd.R_below (by (with_reducible repeat (first | apply Kd.R_alloc | apply Kd.R_drewN | apply Kd.R_drew)); exact HO_6.out) hb); have n1_ := Aside0.mk (below_step (by repeat (first | (with_reducible first | exact HB.out | apply below_alloc | apply pw_below_drewN | apply below_drew1) | exact HB.out)) hb); have n2_ := Aside0.mk (hbox); have n3_ := Aside0.mk ((by rw [hg]; exact (below_size (by repeat (first | (with_reducible first | exact HB.out | apply below_alloc | apply pw_below_drewN | apply below_drew1) | exact HB.out))) : w.heap.size ≤ gb251)); have n4_ := Aside0.mk ((by rw [hg]; exact (below_size (by repeat (first | (with_reducible first | exact HB.out | apply below_alloc | apply pw_below_drewN | apply below_drew1) | exact HB.out))) : w.heap.size ≤ gb251)); clear HO_6; clear HB; have HO_6 := n0_; have HB := n1_; have BK251 := n2_; have GW251 := n3_; have GE251 := n4_; clear n0_ n1_ n2_ n3_ n4_; clear hb hbox hg; have hcz46_0 : w45.cell? ⟨gb251, 0, none⟩ = some (.int .i64 0) := (blk_cell BK251.out 0).trans rfl; have hcz46_1 : w45.cell? ⟨gb251, 1, none⟩ = some (.int .i64 0) := (blk_cell BK251.out 1).trans rfl; have hfz46_0 := blk_frozen BK251.out 0; have hfz46_1 := blk_frozen BK251.out 1; have p252 : 0 ≤ (x8_3 : Int) := of_decide_eq_true (by first | (with_reducible assumption) | assumption); have q252 : x8_3 < (l1.length : Int) := of_decide_eq_true (by first | (with_reducible assumption) | assumption); obtain ⟨ad252, e252, hx252_0, hx252_1⟩ := at_T44 HR1.out x8_3 p252 q252; obtain rfl : ad247 = ad252 := (by injection e252); have hn252_0 : ad247.block ≠ gb251 := Nat.ne_of_lt (Nat.lt_of_lt_of_le (by have := World.block_lt_of_cell? _ _ hx252_0; first | rwa [add_block] at this | exact this) GW251.out); have hn252_1 : ad247.block ≠ gb251 := Nat.ne_of_lt (Nat.lt_of_lt_of_le (by have := World.block_lt_of_cell? _ _ hx252_0; first | rwa [add_block] at this | exact this) GW251.out); replace hx252_0 := (HB.out.cell (World.block_lt_of_cell? w _ hx252_0)).trans hx252_0; replace hx252_1 := (HB.out.cell (World.block_lt_of_cell? w _ hx252_1)).trans hx252_1; replace hx252_0 := (cell_far (p := ⟨gb251, 0, none⟩) (by first | (rw [add_block]; exact hn252_0) | (show (Addr.add _ _).block ≠ _; rw [add_block]; exact hn252_0) | exact hn252_0) (.int .i64 t248)).trans hx252_0; replace hx252_1 := (cell_far (p := ⟨gb251, 0, none⟩) (by first | (rw [add_block]; exact hn252_0) | (show (Addr.add _ _).block ≠ _; rw [add_block]; exact hn252_0) | exact hn252_0) (.int .i64 t248)).trans hx252_1; replace hx252_0 := (cell_far (p := ⟨gb251, 1, none⟩) (by first | (rw [add_block]; exact hn252_1) | (show (Addr.add _ _).block ≠ _; rw [add_block]; exact hn252_1) | exact hn252_1) (.int .i64 t249)).trans hx252_0; replace hx252_1 := (cell_far (p := ⟨gb251, 1, none⟩) (by first | (rw [add_block]; exact hn252_1) | (show (Addr.add _ _).block ≠ _; rw [add_block]; exact hn252_1) | exact hn252_1) (.int .i64 t249)).trans hx252_1; (try have hy252_0 := fun (n_ : Nat) => (show ((((w45.drewN n_).setCell ⟨gb251, 0, none⟩ (.int .i64 t248)).setCell ⟨gb251, 1, none⟩ (.int .i64 t249))).cell? _ = some _ from hx252_0)); (try have hy252_1 := fun (n_ : Nat) => (show ((((w45.drewN n_).setCell ⟨gb251, 0, none⟩ (.int .i64 t248)).setCell ⟨gb251, 1, none⟩ (.int .i64 t249))).cell? _ = some _ from hx252_1)); clear hn252_0; clear hn252_1; replace p252 := eq_true p252; replace q252 := eq_true q252) | (go_at_call 47; (with_reducible refine (joistref13_cell.calls k3 ((rd_T44 l1 x8_3).f0) ((rd_T44 l1 x8_3).f1) t253 t254 t255 false _ A20.out).mono ?_); rintro e w47 ⟨rfl, hb⟩; have n0_ := Aside0.mk (Kd.R_below (by (with_reducible repeat (first | apply Kd.R_alloc | apply Kd.R_drewN | apply Kd.R_drew)); exact (Kd.R_mono (Kd.R_far (p := ⟨gb251, 1, none⟩) (Kd.R_far (p := ⟨gb251, 0, none⟩) (Kd.R_types HO_6.out BK251.out (by decide)) (fun _ hk => hk.2) (.int .i64 t248)) (fun _ hk => hk.2) (.int .i64 t249)) (fun _ h_ => h_.1))) hb); have n1_ := Aside0.mk (blk_below (g := gb251) (o := .cells #[.int .i64 t248, .int .i64 t249] 48 (0, 0)) (by (with_reducible repeat (first | refine blk_drewN ?_ _ | refine blk_drew ?_ | refine blk_alloc ?_ _)); refine blk_put (cs := #[.int .i64 t248, .int .i64 0]) ?_ 1 _ rfl; (with_reducible repeat (first | refine blk_drewN ?_ _ | refine blk_drew ?_ | refine blk_alloc ?_ _)); refine blk_put (cs := #[.int .i64 0, .int .i64 0]) ?_ 0 _ rfl; (with_reducible repeat (first | refine blk_drewN ?_ _ | refine blk_drew ?_ | refine blk_alloc ?_ _)); exact BK251.out) hb); have n2_ := Aside0.mk (below_step (by repeat (first | (with_reducible first | exact HB.out | apply below_alloc | apply pw_below_drewN | apply below_drew1 | refine below_set ?_ GE251.out) | exact HB.out)) hb); clear HO_6; clear BK251; clear HB; have HO_6 := n0_; have BK251 := n1_; have HB := n2_; clear n0_ n1_ n2_; (try clear hb); (try clear hb2); (try clear hk); (try clear hi); have hcz48_0 : w47.cell? ⟨gb251, 0, none⟩ = some (.int .i64 t248) := (blk_cell BK251.out 0).trans rfl; have hcz48_1 : w47.cell? ⟨gb251, 1, none⟩ = some (.int .i64 t249) := (blk_cell BK251.out 1).trans rfl; have hfz48_0 := blk_frozen BK251.out 0; have hfz48_1 := blk_frozen BK251.out 1))
                              repeat (go_quiet (fail); try go_wp2_with (first | (go_at_call 46; (with_reducible refine (joistref13_span.calls k3 a0 ((rd_T44 l1 x8_3).f0) ((rd_T44 l1 x8_3).f1) t248 t249 true _ A18.out).mono ?_); rintro e w44 ⟨rfl, hb⟩; have n0_ := Aside0.mk (Kd.R_below (by (with_reducible repeat (first | apply Kd.R_alloc | apply Kd.R_drewN | apply Kd.R_drew)); exact HO_6.out) hb); have n1_ := Aside0.mk (below_step (by repeat (first | (with_reducible first | exact HB.out | apply below_alloc | apply pw_below_drewN | apply below_drew1) | exact HB.out)) hb); clear HO_6; clear HB; have HO_6 := n0_; have HB := n1_; clear n0_ n1_; (try clear hb); (try clear hb2); (try clear hk); (try clear hi)) | ((with_reducible refine gate_dst (N := 9) rfl ?_); refine box_event ?hg (N := 9) ?hd (cs := #[.int .i64 0, .int .i64 0]) (t := 48) ?hr ?_; (case hd => rfl); (case hg => rfl); (case hr => first | (go_simp; done) | (go_simp; rfl)); intro gb251 hg w45 hbox hb; have n0_ := Aside0.mk (Kd.R_below (by (with_reducible repeat (first | apply Kd.R_alloc | apply Kd.R_drewN | apply Kd.R_drew)); exact HO_6.out) hb); have n1_ := Aside0.mk (below_step (by repeat (first | (with_reducible first | exact HB.out | apply below_alloc | apply pw_below_drewN | apply below_drew1) | exact HB.out)) hb); have n2_ := Aside0.mk (hbox); have n3_ := Aside0.mk ((by rw [hg]; exact (below_size (by repeat (first | (with_reducible first | exact HB.out | apply below_alloc | apply pw_below_drewN | apply below_drew1) | exact HB.out))) : w.heap.size ≤ gb251)); have n4_ := Aside0.mk ((by rw [hg]; exact (below_size (by repeat (first | (with_reducible first | exact HB.out | apply below_alloc | apply pw_below_drewN | apply below_drew1) | exact HB.out))) : w.heap.size ≤ gb251)); clear HO_6; clear HB; have HO_6 := n0_; have HB := n1_; have BK251 := n2_; have GW251 := n3_; have GE251 := n4_; clear n0_ n1_ n2_ n3_ n4_; clear hb hbox hg; have hcz46_0 : w45.cell? ⟨gb251, 0, none⟩ = some (.int .i64 0) := (blk_cell BK251.out 0).trans rfl; have hcz46_1 : w45.cell? ⟨gb251, 1, none⟩ = some (.int .i64 0) := (blk_cell BK251.out 1).trans rfl; have hfz46_0 := blk_frozen BK251.out 0; have hfz46_1 := blk_frozen BK251.out 1; have p252 : 0 ≤ (x8_3 : Int) := of_decide_eq_true (by first | (with_reducible assumption) | assumption); have q252 : x8_3 < (l1.length : Int) := of_decide_eq_true (by first | (with_reducible assumption) | assumption); obtain ⟨ad252, e252, hx252_0, hx252_1⟩ := at_T44 HR1.out x8_3 p252 q252; obtain rfl : ad247 = ad252 := (by injection e252); have hn252_0 : ad247.block ≠ gb251 := Nat.ne_of_lt (Nat.lt_of_lt_of_le (by have := World.block_lt_of_cell? _ _ hx252_0; first | rwa [add_block] at this | exact this) GW251.out); have hn252_1 : ad247.block ≠ gb251 := Nat.ne_of_lt (Nat.lt_of_lt_of_le (by have := World.block_lt_of_cell? _ _ hx252_0; first | rwa [add_block] at this | exact this) GW251.out); replace hx252_0 := (HB.out.cell (World.block_lt_of_cell? w _ hx252_0)).trans hx252_0; replace hx252_1 := (HB.out.cell (World.block_lt_of_cell? w _ hx252_1)).trans hx252_1; replace hx252_0 := (cell_far (p := ⟨gb251, 0, none⟩) (by first | (rw [add_block]; exact hn252_0) | (show (Addr.add _ _).block ≠ _; rw [add_block]; exact hn252_0) | exact hn252_0) (.int .i64 t248)).trans hx252_0; replace hx252_1 := (cell_far (p := ⟨gb251, 0, none⟩) (by first | (rw [add_block]; exact hn252_0) | (show (Addr.add _ _).block ≠ _; rw [add_block]; exact hn252_0) | exact hn252_0) (.int .i64 t248)).trans hx252_1; replace hx252_0 := (cell_far (p := ⟨gb251, 1, none⟩) (by first | (rw [add_block]; exact hn252_1) | (show (Addr.add _ _).block ≠ _; rw [add_block]; exact hn252_1) | exact hn252_1) (.int .i64 t249)).trans hx252_0; replace hx252_1 := (cell_far (p := ⟨gb251, 1, none⟩) (by first | (rw [add_block]; exact hn252_1) | (show (Addr.add _ _).block ≠ _; rw [add_block]; exact hn252_1) | exact hn252_1) (.int .i64 t249)).trans hx252_1; (try have hy252_0 := fun (n_ : Nat) => (show ((((w45.drewN n_).setCell ⟨gb251, 0, none⟩ (.int .i64 t248)).setCell ⟨gb251, 1, none⟩ (.int .i64 t249))).cell? _ = some _ from hx252_0)); (try have hy252_1 := fun (n_ : Nat) => (show ((((w45.drewN n_).setCell ⟨gb251, 0, none⟩ (.int .i64 t248)).setCell ⟨gb251, 1, none⟩ (.int .i64 t249))).cell? _ = some _ from hx252_1)); clear hn252_0; clear hn252_1; replace p252 := eq_true p252; replace q252 := eq_true q252) | (go_at_call 47; (with_reducible refine (joistref13_cell.calls k3 ((rd_T44 l1 x8_3).f0) ((rd_T44 l1 x8_3).f1) t253 t254 t255 false _ A20.out).mono ?_); rintro e w47 ⟨rfl, hb⟩; have n0_ := Aside0.mk (Kd.R_below (by (with_reducible repeat (first | apply Kd.R_alloc | apply Kd.R_drewN | apply Kd.R_drew)); exact (Kd.R_mono (Kd.R_far (p := ⟨gb251, 1, none⟩) (Kd.R_far (p := ⟨gb251, 0, none⟩) (Kd.R_types HO_6.out BK251.out (by decide)) (fun _ hk => hk.2) (.int .i64 t248)) (fun _ hk => hk.2) (.int .i64 t249)) (fun _ h_ => h_.1))) hb); have n1_ := Aside0.mk (blk_below (g := gb251) (o := .cells #[.int .i64 t248, .int .i64 t249] 48 (0, 0)) (by (with_reducible repeat (first | refine blk_drewN ?_ _ | refine blk_drew ?_ | refine blk_alloc ?_ _)); refine blk_put (cs := #[.int .i64 t248, .int .i64 0]) ?_ 1 _ rfl; (with_reducible repeat (first | refine blk_drewN ?_ _ | refine blk_drew ?_ | refine blk_alloc ?_ _)); refine blk_put (cs := #[.int .i64 0, .int .i64 0]) ?_ 0 _ rfl; (with_reducible repeat (first | refine blk_drewN ?_ _ | refine blk_drew ?_ | refine blk_alloc ?_ _)); exact BK251.out) hb); have n2_ := Aside0.mk (below_step (by repeat (first | (with_reducible first | exact HB.out | apply below_alloc | apply pw_below_drewN | apply below_drew1 | refine below_set ?_ GE251.out) | exact HB.out)) hb); clear HO_6; clear BK251; clear HB; have HO_6 := n0_; have BK251 := n1_; have HB := n2_; clear n0_ n1_ n2_; (try clear hb); (try clear hb2); (try clear hk); (try clear hi); have hcz48_0 : w47.cell? ⟨gb251, 0, none⟩ = some (.int .i64 t248) := (blk_cell BK251.out 0).trans rfl; have hcz48_1 : w47.cell? ⟨gb251, 1, none⟩ = some (.int .i64 t249) := (blk_cell BK251.out 1).trans rfl; have hfz48_0 := blk_frozen BK251.out 0; have hfz48_1 := blk_frozen BK251.out 1)))
                              go_loopg [16] k3 (fun kq v16 w' => ∃ (x6_4 : List Int) (x16_4 : Int), v16 = .int .i64 x16_4 ∧ Aside0 (joistref13_Kinds.l3 kq a0 l1 x6_4 x8_3 x16_4 t248 t249 = some (r1, r2)) ∧ Aside0 (kq ≤ k3) ∧ Aside0 (Kd.R (Kd.int .i64) 3 w' w.heap.size (fun _ => True) v244 x6_4) ∧ Aside0 (w'.heap[gb251]? = some (.cells #[.int .i64 t248, .int .i64 t249] 48 (0, 0))) ∧ Aside0 (Below w.heap.size w w'))
                              case atStart => exact ⟨(x6_3), (t248), (by first | rfl | (simp; done) | (simp [*]; done)), H', ⟨Nat.le_refl _⟩, ⟨by (with_reducible repeat (first | apply Kd.R_alloc | apply Kd.R_drewN | apply Kd.R_drew)); exact HO_6.out⟩, ⟨by (with_reducible repeat (first | refine blk_drewN ?_ _ | refine blk_drew ?_ | refine blk_alloc ?_ _)); exact BK251.out⟩, ⟨by repeat (first | (with_reducible first | exact HB.out | apply below_alloc | apply pw_below_drewN | apply below_drew1 | refine below_set ?_ GE251.out) | exact HB.out)⟩⟩
                              case round =>
                                clear H'
                                try clear c1
                                try clear p1
                                try clear q1
                                try clear hx1
                                try clear c2
                                try clear p2
                                try clear q2
                                try clear hx2
                                try clear c3
                                try clear c4
                                try clear c4b0
                                try clear p4
                                try clear q4
                                try clear hx4
                                try clear hf4
                                try clear c5
                                try clear c6
                                try clear c6b0
                                try clear c6b1
                                try clear p6
                                try clear c7
                                try clear c7b0
                                try clear c7b1
                                try clear c10
                                try clear c10b0
                                try clear c11
                                try clear c11b0
                                try clear c12
                                try clear c12b0
                                try clear p13
                                try clear q13
                                try clear hx13
                                try clear hf13
                                try clear c16
                                try clear c16b0
                                try clear c17
                                try clear c17b0
                                try clear c19
                                try clear c21
                                try clear p24
                                try clear q24
                                try clear hx24
                                try clear p25
                                try clear q25
                                try clear hx25
                                try clear p26
                                try clear q26
                                try clear hx26
                                try clear c27
                                try clear c27b0
                                try clear c28
                                try clear c28b0
                                try clear c29
                                try clear c29b0
                                try clear c29b1
                                try clear c32
                                try clear c33
                                try clear c33b0
                                try clear c34
                                try clear c34b0
                                try clear c35
                                try clear c35b0
                                try clear c36
                                try clear c36b0
                                try clear c37
                                try clear c37b0
                                try clear c38
                                try clear c38b0
                                try clear c38b1
                                try clear c39
                                try clear c39b0
                                try clear c40
                                try clear c40b0
                                try clear p41
                                try clear q41
                                try clear hx41
                                try clear hf41
                                try clear hcz25_0
                                try clear hcz25_1
                                try clear hcz46_0
                                try clear hcz46_1
                                try clear hcz48_0
                                try clear hcz48_1
                                try clear hfz25_0
                                try clear hfz25_1
                                try clear hfz46_0
                                try clear hfz46_1
                                try clear hfz48_0
                                try clear hfz48_1
                                try clear hx13_0
                                try clear hx247_0
                                try clear hx247_1
                                try clear hx252_0
                                try clear hx252_1
                                try clear hx257_0
                                try clear hx258_0
                                try clear hx259_0
                                try clear hx259_1
                                try clear hx260_0
                                try clear hx260_1
                                try clear hx41_0
                                try clear p1
                                try clear p13
                                try clear p2
                                try clear p24
                                try clear p247
                                try clear p25
                                try clear p252
                                try clear p257
                                try clear p258
                                try clear p259
                                try clear p260
                                try clear p41
                                try clear p6
                                try clear q1
                                try clear q13
                                try clear q2
                                try clear q24
                                try clear q247
                                try clear q25
                                try clear q252
                                try clear q257
                                try clear q258
                                try clear q259
                                try clear q260
                                try clear q41
                                obtain ⟨x6_4, x16_4, rfl, HA, HK4, HO_6, BK251, HB⟩ := hrel
                                cases gk with
                                | zero => exact absurd HA.out (by simp [joistref13_Kinds.l3])
                                | succ k4 =>
                                  have H := HA.out
                                  clear HA
                                  simp only [joistref13_Kinds.l3] at H
                                  by_cases c49 : x16_4 < (wrap64 (t248 + t249))
                                  · rw [if_pos c49] at H
                                    have c49b0 : decide (x16_4 < (wrap64 (t248 + t249))) = true := decide_eq_true c49
                                    clear c49
                                    by_cases c50 : 0 ≤ x16_4
                                    · rw [if_pos c50] at H
                                      have c50b0 : decide (0 ≤ x16_4) = true := decide_eq_true c50
                                      clear c50
                                      by_cases c51 : x16_4 < (x6_4.length : Int)
                                      · rw [if_pos c51] at H
                                        have c51b0 : decide (x16_4 < (x6_4.length : Int)) = true := decide_eq_true c51
                                        clear c51
                                        by_cases c52 : (rd x6_4 x16_4) = (-1)
                                        · rw [if_pos c52] at H
                                          have c52b0 : ((rd x6_4 x16_4) == (-1)) = true := beq_iff_eq.mpr c52
                                          have c52b1 : ((rd x6_4 x16_4) != (-1)) = false := bne_eq_false_iff_eq.mpr c52
                                          clear c52
                                          obtain ⟨y263, hy263⟩ : ∃ y_ : List Int, y_ = (x6_4.set (x16_4 : Int).toNat 7) := ⟨_, rfl⟩
                                          replace H : (joistref13_Kinds.l3 k4 a0 l1 y263 x8_3 (wrap64 (x16_4 + 1)) t248 t249) = some (r1, r2) := by first | (rw [hy263]; with_reducible exact H) | (have H2_ := (Option.bind_some _ _).symm.trans H; rw [hy263]; with_reducible exact H2_) | (have H2_ := (Option.bind_some _ _).symm.trans H; with_reducible exact H2_) | with_reducible exact H | (rw [hy263]; exact H) | exact H
                                          have Ny263 := Aside0.mk hy263
                                          clear hy263
                                          have H' := Aside0.mk H
                                          clear H
                                          have hcz54_0 : wr.cell? ⟨gb251, 0, none⟩ = some (.int .i64 t248) := (blk_cell BK251.out 0).trans rfl
                                          have hcz54_1 : wr.cell? ⟨gb251, 1, none⟩ = some (.int .i64 t249) := (blk_cell BK251.out 1).trans rfl
                                          have hfz54_0 := blk_frozen BK251.out 0
                                          have hfz54_1 := blk_frozen BK251.out 1
                                          obtain ⟨Ao55, co55, eo55⟩ := Kd.R_slice HO_6.out
                                          subst eo55
                                          have p262 : 0 ≤ (x16_4 : Int) := of_decide_eq_true (by first | (with_reducible assumption) | assumption)
                                          have q262 : x16_4 < (x6_4.length : Int) := of_decide_eq_true (by first | (with_reducible assumption) | assumption)
                                          obtain ⟨ad262, e262, hx262_0⟩ := Kd.at_int (Kd.R_reads' HO_6.out).2.2 x16_4 p262 q262
                                          cases e262
                                          replace p262 := eq_true p262
                                          replace q262 := eq_true q262
                                          have p53 : 0 ≤ (x16_4 : Int) := of_decide_eq_true (by first | (with_reducible assumption) | assumption)
                                          have q53 : (x16_4 : Int) < ((x6_4.length : Int) : Int) := of_decide_eq_true (by first | (with_reducible assumption) | assumption)
                                          obtain ⟨go53, co53, eo53, gb53, gl53, cl53, HG53⟩ := Kd.R_form HO_6.out (by omega)
                                          (first | cases eo53 | (injection eo53 with ea_ en_ ec_; (first | subst ea_ | (injection ea_ with ea_; subst ea_)); subst ec_; clear en_))
                                          have GB53 := Aside0.mk gb53
                                          have GG53 := Aside0.mk HG53
                                          clear gb53 gl53 HG53
                                          (first | simp only [add_plain] at hx262_0 | skip)
                                          obtain ⟨hx53_0, hf53_0⟩ := Kd.R_celln 0 HO_6.out (x16_4 : Int) p53 q53
                                          replace p53 := eq_true p53
                                          replace q53 := eq_true q53
                                          have HP56 := Kd.R_putg HO_6.out (x16_4 : Int) 7
                                          go_wp2_with (first | ((with_reducible refine gate_store (t := 3) (p := 112) rfl ?_); (try (rw [drewN_self wr]; generalize hq_ : World.drewN wr _ = wr; have n0_ := Aside0.mk (Kd.R_at hq_ HO_6.out); have n1_ := Aside0.mk (blk_at hq_ BK251.out); have n2_ := Aside0.mk (below_at hq_ HB.out); clear hq_ HO_6 BK251 HB; have HO_6 := n0_; have BK251 := n1_; have HB := n2_; clear n0_ n1_ n2_; (try (have HP56 := Kd.R_putg HO_6.out (x16_4 : Int) 7)))); refine store_event (t := 3) (p := 112) (v := ?vo_w57) (w1 := (wr.setCell ⟨go53, (x16_4 : Int).toNat, none⟩ (.int .i64 7))) ?hg ?ho ?hn ?hr ?_; (case ho => rfl); (case hg => rfl); (case hn => rfl); (case hr => first | (go_simp; done) | (go_simp; rfl)); intro w57 hw; have hg : wr.grownBy w57 (some go53) := (by rw [hw]; exact HP56.2); have hp_ : Kd.R (Kd.int .i64) 3 w57 w.heap.size (fun _ => True) (.slice (some ⟨go53, 0, none⟩) x6_4.length co55) y263 := (by rw [hw, Ny263.out]; exact HP56.1); clear HP56; have n0_ := Aside0.mk (hp_); have n1_ := Aside0.mk (blk_grown (g := gb251) (o := .cells #[.int .i64 t248, .int .i64 t249] 48 (0, 0)) (by (with_reducible repeat (first | refine blk_drewN ?_ _ | refine blk_drew ?_ | refine blk_alloc ?_ _)); exact BK251.out) hg (Kd.R_ne HO_6.out BK251.out (by decide))); have n2_ := Aside0.mk ((by rw [hw]; exact below_set (HB.out) GB53.out : Below w.heap.size w w57)); clear HO_6; clear BK251; clear HB; have HO_6 := n0_; have BK251 := n1_; have HB := n2_; clear n0_ n1_ n2_; clear hg hw hp_))
                                          repeat (go_quiet (fail); try go_wp2_with (first | ((with_reducible refine gate_store (t := 3) (p := 112) rfl ?_); (try (rw [drewN_self wr]; generalize hq_ : World.drewN wr _ = wr; have n0_ := Aside0.mk (Kd.R_at hq_ HO_6.out); have n1_ := Aside0.mk (blk_at hq_ BK251.out); have n2_ := Aside0.mk (below_at hq_ HB.out); clear hq_ HO_6 BK251 HB; have HO_6 := n0_; have BK251 := n1_; have HB := n2_; clear n0_ n1_ n2_; (try (have HP56 := Kd.R_putg HO_6.out (x16_4 : Int) 7)))); refine store_event (t := 3) (p := 112) (v := ?vo_w57) (w1 := (wr.setCell ⟨go53, (x16_4 : Int).toNat, none⟩ (.int .i64 7))) ?hg ?ho ?hn ?hr ?_; (case ho => rfl); (case hg => rfl); (case hn => rfl); (case hr => first | (go_simp; done) | (go_simp; rfl)); intro w57 hw; have hg : wr.grownBy w57 (some go53) := (by rw [hw]; exact HP56.2); have hp_ : Kd.R (Kd.int .i64) 3 w57 w.heap.size (fun _ => True) (.slice (some ⟨go53, 0, none⟩) x6_4.length co55) y263 := (by rw [hw, Ny263.out]; exact HP56.1); clear HP56; have n0_ := Aside0.mk (hp_); have n1_ := Aside0.mk (blk_grown (g := gb251) (o := .cells #[.int .i64 t248, .int .i64 t249] 48 (0, 0)) (by (with_reducible repeat (first | refine blk_drewN ?_ _ | refine blk_drew ?_ | refine blk_alloc ?_ _)); exact BK251.out) hg (Kd.R_ne HO_6.out BK251.out (by decide))); have n2_ := Aside0.mk ((by rw [hw]; exact below_set (HB.out) GB53.out : Below w.heap.size w w57)); clear HO_6; clear BK251; clear HB; have HO_6 := n0_; have BK251 := n1_; have HB := n2_; clear n0_ n1_ n2_; clear hg hw hp_)))
                                          go_roundg k4
                                          case measure => have := HJ2.out; have := HK2.out; have := HK3.out; have := HK4.out; omega
                                          case rel => exact ⟨(y263), (wrap64 (x16_4 + 1)), (by first | rfl | (simp; done) | (simp [*]; done)), H', ⟨by have := HJ2.out; have := HK2.out; have := HK3.out; have := HK4.out; omega⟩, ⟨by (with_reducible repeat (first | apply Kd.R_alloc | apply Kd.R_drewN | apply Kd.R_drew)); exact HO_6.out⟩, ⟨by (with_reducible repeat (first | refine blk_drewN ?_ _ | refine blk_drew ?_ | refine blk_alloc ?_ _)); exact BK251.out⟩, ⟨by repeat (first | (with_reducible first | exact HB.out | apply below_alloc | apply pw_below_drewN | apply below_drew1 | refine below_set ?_ GE251.out) | exact HB.out)⟩⟩
                                        · rw [if_neg c52] at H
                                          have c52b0 : ((rd x6_4 x16_4) == (-1)) = false := beq_eq_false_iff_ne.mpr c52
                                          have c52b1 : ((rd x6_4 x16_4) != (-1)) = true := bne_iff_ne.mpr c52
                                          simp only [Option.some.injEq, Prod.mk.injEq] at H
                                          obtain ⟨rfl, rfl⟩ := H
                                          have hcz58_0 : wr.cell? ⟨gb251, 0, none⟩ = some (.int .i64 t248) := (blk_cell BK251.out 0).trans rfl
                                          have hcz58_1 : wr.cell? ⟨gb251, 1, none⟩ = some (.int .i64 t249) := (blk_cell BK251.out 1).trans rfl
                                          have hfz58_0 := blk_frozen BK251.out 0
                                          have hfz58_1 := blk_frozen BK251.out 1
                                          obtain ⟨Ao59, co59, eo59⟩ := Kd.R_slice HO_6.out
                                          subst eo59
                                          have p262 : 0 ≤ (x16_4 : Int) := of_decide_eq_true (by first | (with_reducible assumption) | assumption)
                                          have q262 : x16_4 < (x6_4.length : Int) := of_decide_eq_true (by first | (with_reducible assumption) | assumption)
                                          obtain ⟨ad262, e262, hx262_0⟩ := Kd.at_int (Kd.R_reads' HO_6.out).2.2 x16_4 p262 q262
                                          cases e262
                                          replace p262 := eq_true p262
                                          replace q262 := eq_true q262
                                          go_wp2
                                          repeat (go_quiet (fail); try go_wp2)
                                          go_ret2
                                          exact ⟨_, by first | rfl | (simp [errW_none, errW_some] <;> rfl) | (simp [*, errW_none, errW_some] <;> rfl), by first | exact Kd.R_nil _ _ _ _ _ | exact Kd.N_nil _ _ _ _ _ | exact Kd.V_nil _ _ _ _ _ | exact Kd.Q_nil _ _ _ _ _ | exact Kd.S_nil _ _ _ _ _, by repeat (first | (with_reducible first | exact HB.out | apply below_alloc | apply pw_below_drewN | apply below_drew1 | refine below_set ?_ GE251.out) | exact HB.out)⟩
                                      · rw [if_neg c51] at H
                                        exact absurd H (by simp)
                                    · rw [if_neg c50] at H
                                      exact absurd H (by simp)
                                  · rw [if_neg c49] at H
                                    have c49b0 : decide (x16_4 < (wrap64 (t248 + t249))) = false := decide_eq_false c49
                                    clear c49
                                    by_cases c60 : 0 ≤ t248
                                    · rw [if_pos c60] at H
                                      have c60b0 : decide (0 ≤ t248) = true := decide_eq_true c60
                                      clear c60
                                      by_cases c61 : t248 < (x6_4.length : Int)
                                      · rw [if_pos c61] at H
                                        have c61b0 : decide (t248 < (x6_4.length : Int)) = true := decide_eq_true c61
                                        clear c61
                                        obtain ⟨y264, hy264⟩ : ∃ y_ : List Int, y_ = (x6_4.set (t248 : Int).toNat 6) := ⟨_, rfl⟩
                                        replace H : (joistref13_Kinds.l1 k4 a0 l1 y264 (wrap64 (x8_3 + 1))) = some (r1, r2) := by first | (rw [hy264]; with_reducible exact H) | (have H2_ := (Option.bind_some _ _).symm.trans H; rw [hy264]; with_reducible exact H2_) | (have H2_ := (Option.bind_some _ _).symm.trans H; with_reducible exact H2_) | with_reducible exact H | (rw [hy264]; exact H) | exact H
                                        have Ny264 := Aside0.mk hy264
                                        clear hy264
                                        have H' := Aside0.mk H
                                        clear H
                                        have hcz63_0 : wr.cell? ⟨gb251, 0, none⟩ = some (.int .i64 t248) := (blk_cell BK251.out 0).trans rfl
                                        have hcz63_1 : wr.cell? ⟨gb251, 1, none⟩ = some (.int .i64 t249) := (blk_cell BK251.out 1).trans rfl
                                        have hfz63_0 := blk_frozen BK251.out 0
                                        have hfz63_1 := blk_frozen BK251.out 1
                                        have p62 : 0 ≤ (t248 : Int) := of_decide_eq_true (by first | (with_reducible assumption) | assumption)
                                        have q62 : (t248 : Int) < ((x6_4.length : Int) : Int) := of_decide_eq_true (by first | (with_reducible assumption) | assumption)
                                        obtain ⟨go62, co62, eo62, gb62, gl62, cl62, HG62⟩ := Kd.R_form HO_6.out (by omega)
                                        (first | cases eo62 | (injection eo62 with ea_ en_ ec_; (first | subst ea_ | (injection ea_ with ea_; subst ea_)); subst ec_; clear en_))
                                        have GB62 := Aside0.mk gb62
                                        have GG62 := Aside0.mk HG62
                                        clear gb62 gl62 HG62
                                        obtain ⟨hx62_0, hf62_0⟩ := Kd.R_celln 0 HO_6.out (t248 : Int) p62 q62
                                        replace p62 := eq_true p62
                                        replace q62 := eq_true q62
                                        have HP64 := Kd.R_putg HO_6.out (t248 : Int) 6
                                        go_wp2_with (first | ((with_reducible refine gate_store (t := 3) (p := 116) rfl ?_); (try (rw [drewN_self wr]; generalize hq_ : World.drewN wr _ = wr; have n0_ := Aside0.mk (Kd.R_at hq_ HO_6.out); have n1_ := Aside0.mk (blk_at hq_ BK251.out); have n2_ := Aside0.mk (below_at hq_ HB.out); clear hq_ HO_6 BK251 HB; have HO_6 := n0_; have BK251 := n1_; have HB := n2_; clear n0_ n1_ n2_; (try (have HP64 := Kd.R_putg HO_6.out (t248 : Int) 6)))); refine store_event (t := 3) (p := 116) (v := ?vo_w65) (w1 := (wr.setCell ⟨go62, (t248 : Int).toNat, none⟩ (.int .i64 6))) ?hg ?ho ?hn ?hr ?_; (case ho => rfl); (case hg => rfl); (case hn => rfl); (case hr => first | (go_simp; done) | (go_simp; rfl)); intro w65 hw; have hg : wr.grownBy w65 (some go62) := (by rw [hw]; exact HP64.2); have hp_ : Kd.R (Kd.int .i64) 3 w65 w.heap.size (fun _ => True) (.slice (some ⟨go62, 0, none⟩) x6_4.length co62) y264 := (by rw [hw, Ny264.out]; exact HP64.1); clear HP64; have n0_ := Aside0.mk (hp_); have n1_ := Aside0.mk (blk_grown (g := gb251) (o := .cells #[.int .i64 t248, .int .i64 t249] 48 (0, 0)) (by (with_reducible repeat (first | refine blk_drewN ?_ _ | refine blk_drew ?_ | refine blk_alloc ?_ _)); exact BK251.out) hg (Kd.R_ne HO_6.out BK251.out (by decide))); have n2_ := Aside0.mk ((by rw [hw]; exact below_set (HB.out) GB62.out : Below w.heap.size w w65)); clear HO_6; clear BK251; clear HB; have HO_6 := n0_; have BK251 := n1_; have HB := n2_; clear n0_ n1_ n2_; clear hg hw hp_))
                                        repeat (go_quiet (fail); try go_wp2_with (first | ((with_reducible refine gate_store (t := 3) (p := 116) rfl ?_); (try (rw [drewN_self wr]; generalize hq_ : World.drewN wr _ = wr; have n0_ := Aside0.mk (Kd.R_at hq_ HO_6.out); have n1_ := Aside0.mk (blk_at hq_ BK251.out); have n2_ := Aside0.mk (below_at hq_ HB.out); clear hq_ HO_6 BK251 HB; have HO_6 := n0_; have BK251 := n1_; have HB := n2_; clear n0_ n1_ n2_; (try (have HP64 := Kd.R_putg HO_6.out (t248 : Int) 6)))); refine store_event (t := 3) (p := 116) (v := ?vo_w65) (w1 := (wr.setCell ⟨go62, (t248 : Int).toNat, none⟩ (.int .i64 6))) ?hg ?ho ?hn ?hr ?_; (case ho => rfl); (case hg => rfl); (case hn => rfl); (case hr => first | (go_simp; done) | (go_simp; rfl)); intro w65 hw; have hg : wr.grownBy w65 (some go62) := (by rw [hw]; exact HP64.2); have hp_ : Kd.R (Kd.int .i64) 3 w65 w.heap.size (fun _ => True) (.slice (some ⟨go62, 0, none⟩) x6_4.length co62) y264 := (by rw [hw, Ny264.out]; exact HP64.1); clear HP64; have n0_ := Aside0.mk (hp_); have n1_ := Aside0.mk (blk_grown (g := gb251) (o := .cells #[.int .i64 t248, .int .i64 t249] 48 (0, 0)) (by (with_reducible repeat (first | refine blk_drewN ?_ _ | refine blk_drew ?_ | refine blk_alloc ?_ _)); exact BK251.out) hg (Kd.R_ne HO_6.out BK251.out (by decide))); have n2_ := Aside0.mk ((by rw [hw]; exact below_set (HB.out) GB62.out : Below w.heap.size w w65)); clear HO_6; clear BK251; clear HB; have HO_6 := n0_; have BK251 := n1_; have HB := n2_; clear n0_ n1_ n2_; clear hg hw hp_)))
                                        go_roundg k4
                                        case measure => have := HJ2.out; have := HK2.out; have := HK3.out; have := HK4.out; omega
                                        case rel => exact ⟨(y264), (wrap64 (x8_3 + 1)), (by first | rfl | (simp; done) | (simp [*]; done)), H', ⟨by have := HJ2.out; have := HK2.out; have := HK3.out; have := HK4.out; omega⟩, ⟨by (with_reducible repeat (first | apply Kd.R_alloc | apply Kd.R_drewN | apply Kd.R_drew)); exact HO_6.out⟩, ⟨by repeat (first | (with_reducible first | exact HB.out | apply below_alloc | apply pw_below_drewN | apply below_drew1 | refine below_set ?_ GE251.out) | exact HB.out)⟩⟩
                                      · rw [if_neg c61] at H
                                        exact absurd H (by simp)
                                    · rw [if_neg c60] at H
                                      exact absurd H (by simp)
                          · replace c19 := Bool.eq_false_iff.mpr c19
                            subst c19
                            have H1 : (some (([] : List Int), false)) = some (r1, r2) := by rw [if_neg (show ¬ (false = true) by decide)] at H; exact H
                            clear H
                            have H := H1
                            clear H1
                            simp only [Option.some.injEq, Prod.mk.injEq] at H
                            obtain ⟨rfl, rfl⟩ := H
                            have p247 : 0 ≤ (x8_3 : Int) := of_decide_eq_true (by first | (with_reducible assumption) | assumption)
                            have q247 : x8_3 < (l1.length : Int) := of_decide_eq_true (by first | (with_reducible assumption) | assumption)
                            obtain ⟨ad247, e247, hx247_0, hx247_1⟩ := at_T44 HR1.out x8_3 p247 q247
                            cases e247
                            replace hx247_0 := (HB.out.cell (World.block_lt_of_cell? w _ hx247_0)).trans hx247_0
                            replace hx247_1 := (HB.out.cell (World.block_lt_of_cell? w _ hx247_1)).trans hx247_1
                            replace p247 := eq_true p247
                            replace q247 := eq_true q247
                            go_wp2_with (first | (go_at_call 46; (with_reducible refine (joistref13_span.calls k3 a0 ((rd_T44 l1 x8_3).f0) ((rd_T44 l1 x8_3).f1) t248 t249 false _ A18.out).mono ?_); rintro e w66 ⟨rfl, hb⟩; have n0_ := Aside0.mk (Kd.R_below (by (with_reducible repeat (first | apply Kd.R_alloc | apply Kd.R_drewN | apply Kd.R_drew)); exact HO_6.out) hb); have n1_ := Aside0.mk (below_step (by repeat (first | (with_reducible first | exact HB.out | apply below_alloc | apply pw_below_drewN | apply below_drew1) | exact HB.out)) hb); clear HO_6; clear HB; have HO_6 := n0_; have HB := n1_; clear n0_ n1_; (try clear hb); (try clear hb2); (try clear hk); (try clear hi)) | ((with_reducible refine gate_dst (N := 9) rfl ?_); refine box_event ?hg (N := 9) ?hd (cs := #[.int .i64 0, .int .i64 0]) (t := 48) ?hr ?_; (case hd => rfl); (case hg => rfl); (case hr => first | (go_simp; done) | (go_simp; rfl)); intro gb251 hg w67 hbox hb; have n0_ := Aside0.mk (Kd.R_below (by (with_reducible repeat (first | apply Kd.R_alloc | apply Kd.R_drewN | apply Kd.R_drew)); exact HO_6.out) hb); have n1_ := Aside0.mk (below_step (by repeat (first | (with_reducible first | exact HB.out | apply below_alloc | apply pw_below_drewN | apply below_drew1) | exact HB.out)) hb); have n2_ := Aside0.mk (hbox); have n3_ := Aside0.mk ((by rw [hg]; exact (below_size (by repeat (first | (with_reducible first | exact HB.out | apply below_alloc | apply pw_below_drewN | apply below_drew1) | exact HB.out))) : w.heap.size ≤ gb251)); have n4_ := Aside0.mk ((by rw [hg]; exact (below_size (by repeat (first | (with_reducible first | exact HB.out | apply below_alloc | apply pw_below_drewN | apply below_drew1) | exact HB.out))) : w.heap.size ≤ gb251)); clear HO_6; clear HB; have HO_6 := n0_; have HB := n1_; have BK251 := n2_; have GW251 := n3_; have GE251 := n4_; clear n0_ n1_ n2_ n3_ n4_; clear hb hbox hg; have hcz68_0 : w67.cell? ⟨gb251, 0, none⟩ = some (.int .i64 0) := (blk_cell BK251.out 0).trans rfl; have hcz68_1 : w67.cell? ⟨gb251, 1, none⟩ = some (.int .i64 0) := (blk_cell BK251.out 1).trans rfl; have hfz68_0 := blk_frozen BK251.out 0; have hfz68_1 := blk_frozen BK251.out 1))
                            repeat (go_quiet (fail); try go_wp2_with (first | (go_at_call 46; (with_reducible refine (joistref13_span.calls k3 a0 ((rd_T44 l1 x8_3).f0) ((rd_T44 l1 x8_3).f1) t248 t249 false _ A18.out).mono ?_); rintro e w66 ⟨rfl, hb⟩; have n0_ := Aside0.mk (Kd.R_below (by (with_reducible repeat (first | apply Kd.R_alloc | apply Kd.R_drewN | apply Kd.R_drew)); exact HO_6.out) hb); have n1_ := Aside0.mk (below_step (by repeat (first | (with_reducible first | exact HB.out | apply below_alloc | apply pw_below_drewN | apply below_drew1) | exact HB.out)) hb); clear HO_6; clear HB; have HO_6 := n0_; have HB := n1_; clear n0_ n1_; (try clear hb); (try clear hb2); (try clear hk); (try clear hi)) | ((with_reducible refine gate_dst (N := 9) rfl ?_); refine box_event ?hg (N := 9) ?hd (cs := #[.int .i64 0, .int .i64 0]) (t := 48) ?hr ?_; (case hd => rfl); (case hg => rfl); (case hr => first | (go_simp; done) | (go_simp; rfl)); intro gb251 hg w67 hbox hb; have n0_ := Aside0.mk (Kd.R_below (by (with_reducible repeat (first | apply Kd.R_alloc | apply Kd.R_drewN | apply Kd.R_drew)); exact HO_6.out) hb); have n1_ := Aside0.mk (below_step (by repeat (first | (with_reducible first | exact HB.out | apply below_alloc | apply pw_below_drewN | apply below_drew1) | exact HB.out)) hb); have n2_ := Aside0.mk (hbox); have n3_ := Aside0.mk ((by rw [hg]; exact (below_size (by repeat (first | (with_reducible first | exact HB.out | apply below_alloc | apply pw_below_drewN | apply below_drew1) | exact HB.out))) : w.heap.size ≤ gb251)); have n4_ := Aside0.mk ((by rw [hg]; exact (below_size (by repeat (first | (with_reducible first | exact HB.out | apply below_alloc | apply pw_below_drewN | apply below_drew1) | exact HB.out))) : w.heap.size ≤ gb251)); clear HO_6; clear HB; have HO_6 := n0_; have HB := n1_; have BK251 := n2_; have GW251 := n3_; have GE251 := n4_; clear n0_ n1_ n2_ n3_ n4_; clear hb hbox hg; have hcz68_0 : w67.cell? ⟨gb251, 0, none⟩ = some (.int .i64 0) := (blk_cell BK251.out 0).trans rfl; have hcz68_1 : w67.cell? ⟨gb251, 1, none⟩ = some (.int .i64 0) := (blk_cell BK251.out 1).trans rfl; have hfz68_0 := blk_frozen BK251.out 0; have hfz68_1 := blk_frozen BK251.out 1)))
                            go_ret2
                            exact ⟨_, by first | rfl | (simp [errW_none, errW_some] <;> rfl) | (simp [*, errW_none, errW_some] <;> rfl), by first | exact Kd.R_nil _ _ _ _ _ | exact Kd.N_nil _ _ _ _ _ | exact Kd.V_nil _ _ _ _ _ | exact Kd.Q_nil _ _ _ _ _ | exact Kd.S_nil _ _ _ _ _, by repeat (first | (with_reducible first | exact HB.out | apply below_alloc | apply pw_below_drewN | apply below_drew1 | refine below_set ?_ GE251.out) | exact HB.out)⟩
                        · rw [if_neg c17] at H
                          exact absurd H (by simp)
                      · rw [if_neg c16] at H
                        have c16b0 : decide (x8_3 < (l1.length : Int)) = false := decide_eq_false c16
                        clear c16
                        simp only [Option.some.injEq, Prod.mk.injEq] at H
                        obtain ⟨rfl, rfl⟩ := H
                        go_wp2
                        repeat (go_quiet (fail); try go_wp2)
                        go_ret2
                        exact ⟨_, by first | rfl | (simp [errW_none, errW_some] <;> rfl) | (simp [*, errW_none, errW_some] <;> rfl), by (with_reducible repeat (first | apply Kd.R_alloc | apply Kd.R_drewN | apply Kd.R_drew)); exact HO_6.out, by repeat (first | (with_reducible first | exact HB.out | apply below_alloc | apply pw_below_drewN | apply below_drew1) | exact HB.out)⟩
          · rw [if_neg c7] at H
            exact absurd H (by simp)
        · rw [if_neg c6] at H
          exact absurd H (by simp)

end Go.Proofs.Ytlpkbekpdhaplaa.P
