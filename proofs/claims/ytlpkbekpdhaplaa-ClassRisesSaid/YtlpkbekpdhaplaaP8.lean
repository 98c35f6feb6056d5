-- Printed by wip/tools/pp.py.
import Derived.Test.YtlpkbekpdhaplaaP0
import Derived.Test.YtlpkbekpdhaplaaP3
import Derived.Test.YtlpkbekpdhaplaaP5
import Derived.Test.YtlpkbekpdhaplaaE1
namespace Go.Proofs.Ytlpkbekpdhaplaa.P
open Go.RowKit Go.Proofs.YtlpkbekpdhaplaaW.PrintWords Go.Proofs.YtlpkbekpdhaplaaW.PrintLast Go.Proofs.YtlpkbekpdhaplaaW.PrintMore
attribute [local go_sem] max2_int min2_int max_two min_two max_three min_three max_four min_four   -- for this text's walks alone
set_option linter.unusedVariables false
set_option linter.unusedSimpArgs false

/-! ### joistlaw12_ClassRises: function 6 -/
mutual
def joistlaw12_ClassRises.j0 : Nat → Int → Int → Bool → Bool → Option (Bool)
  | 0, _, _, _, _ => none
  | k + 1, x0, x1, x5, x24 => if x24 = true then (some x5) else ((class_Of.f x0).bind fun bt185 => ((class_Of.f (wrap64 (x0 + 1))).bind fun bt187 => ((class_Pages.f x0).bind fun bt189 => ((class_Pages.f (wrap64 (x0 + 1))).bind fun bt191 => (if bt185.2 = true then (if bt187.2 = true then (if bt187.1 < bt185.1 then (joistlaw12_ClassRises.j1 k x0 x1 x5 bt185.2 bt189.2 true) else (if bt187.1 > (wrap64 (bt185.1 + 1)) then (joistlaw12_ClassRises.j1 k x0 x1 x5 bt185.2 bt189.2 true) else (if bt189.2 = 0 then (joistlaw12_ClassRises.j1 k x0 x1 x5 bt185.2 bt189.2 true) else (joistlaw12_ClassRises.j1 k x0 x1 x5 bt185.2 bt189.2 false)))) else (if bt189.2 = 0 then (joistlaw12_ClassRises.j1 k x0 x1 x5 bt185.2 bt189.2 true) else (joistlaw12_ClassRises.j1 k x0 x1 x5 bt185.2 bt189.2 false))) else (if bt189.2 = 0 then (if bt191.2 = 0 then (if bt191.1 < bt189.1 then (joistlaw12_ClassRises.j1 k x0 x1 x5 bt185.2 bt189.2 true) else (joistlaw12_ClassRises.j1 k x0 x1 x5 bt185.2 bt189.2 (decide (bt191.1 > (wrap64 (bt189.1 + 1)))))) else (joistlaw12_ClassRises.j1 k x0 x1 x5 bt185.2 bt189.2 false)) else (joistlaw12_ClassRises.j1 k x0 x1 x5 bt185.2 bt189.2 false)))))))
def joistlaw12_ClassRises.j1 : Nat → Int → Int → Bool → Bool → Int → Bool → Option (Bool)
  | 0, _, _, _, _, _, _ => none
  | k + 1, x0, x1, x5, x7, x11, x88 => if x88 = true then (some false) else (if x7 = true then (if x0 ≥ 1 then (joistlaw12_ClassRises.j2 k x1 x5 (true != (decide (x0 ≤ 2048)))) else (joistlaw12_ClassRises.j2 k x1 x5 (true != false))) else (if x0 ≥ 1 then (joistlaw12_ClassRises.j2 k x1 x5 ((x11 == 0) != (decide (x0 ≤ 2048)))) else (joistlaw12_ClassRises.j2 k x1 x5 ((x11 == 0) != false))))
def joistlaw12_ClassRises.j2 : Nat → Int → Bool → Bool → Option (Bool)
  | 0, _, _, _ => none
  | k + 1, x1, x5, x100 => if x100 = true then (some false) else ((class_Cells.f x1).bind fun bt193 => (if bt193.2 = 0 then ((class_Cells.f (wrap64 (x1 + 1))).bind fun bt195 => (if x5 = true then (if bt193.1 ≥ 1 then (if bt195.2 = 0 then (some (decide (bt195.1 ≤ bt193.1))) else (if x1 = 5 then (some true) else (some false))) else (some false)) else (some false))) else (if x5 = true then (some (bt193.1 == 0)) else (some false))))
end
def joistlaw12_ClassRises.f (k : Nat) (a0 : Int) (a1 : Int) : Option (Bool) := (joistlaw12_small.f).bind fun t184 => (if a0 > 1099511627776 then (joistlaw12_ClassRises.j0 k a0 a1 t184 true) else (joistlaw12_ClassRises.j0 k a0 a1 t184 (decide (a0 < (-1099511627776)))))
theorem joistlaw12_ClassRises.mono_l : ∀ k, (∀ y0 y1 y2 y3, LeO (joistlaw12_ClassRises.j0 k y0 y1 y2 y3) (joistlaw12_ClassRises.j0 (k + 1) y0 y1 y2 y3)) ∧ (∀ y0 y1 y2 y3 y4 y5, LeO (joistlaw12_ClassRises.j1 k y0 y1 y2 y3 y4 y5) (joistlaw12_ClassRises.j1 (k + 1) y0 y1 y2 y3 y4 y5)) ∧ (∀ y0 y1 y2, LeO (joistlaw12_ClassRises.j2 k y0 y1 y2) (joistlaw12_ClassRises.j2 (k + 1) y0 y1 y2))
  | 0 => ⟨fun _ _ _ _ r h => by simp [joistlaw12_ClassRises.j0] at h, fun _ _ _ _ _ _ r h => by simp [joistlaw12_ClassRises.j1] at h, fun _ _ _ r h => by simp [joistlaw12_ClassRises.j2] at h⟩
  | k + 1 => by
    obtain ⟨ih0, ih1, ih2⟩ := joistlaw12_ClassRises.mono_l k
    refine ⟨?_, ?_, ?_⟩
    · intro y0 y1 y2 y3
      unfold joistlaw12_ClassRises.j0
      repeat' first
      | (with_reducible exact ih0 _ _ _ _)
      | (with_reducible exact ih1 _ _ _ _ _ _)
      | (with_reducible exact ih2 _ _ _)
      | (with_reducible exact LeO.refl _)
      | (with_reducible exact LeO.none _)
      | (with_reducible refine LeO.ite ?_ ?_)
      | (with_reducible refine LeO.bind ?_ (fun _ => ?_))
      | exact ih0 _ _ _ _
      | exact ih1 _ _ _ _ _ _
      | exact ih2 _ _ _
      | exact LeO.none _
      | refine LeO.ite ?_ ?_
      | refine LeO.bind ?_ (fun _ => ?_)
    · intro y0 y1 y2 y3 y4 y5
      unfold joistlaw12_ClassRises.j1
      repeat' first
      | (with_reducible exact ih0 _ _ _ _)
      | (with_reducible exact ih1 _ _ _ _ _ _)
      | (with_reducible exact ih2 _ _ _)
      | (with_reducible exact LeO.refl _)
      | (with_reducible exact LeO.none _)
      | (with_reducible refine LeO.ite ?_ ?_)
      | (with_reducible refine LeO.bind ?_ (fun _ => ?_))
      | exact ih0 _ _ _ _
      | exact ih1 _ _ _ _ _ _
      | exact ih2 _ _ _
      | exact LeO.none _
      | refine LeO.ite ?_ ?_
      | refine LeO.bind ?_ (fun _ => ?_)
    · intro y0 y1 y2
      unfold joistlaw12_ClassRises.j2
      repeat' first
      | (with_reducible exact ih0 _ _ _ _)
      | (with_reducible exact ih1 _ _ _ _ _ _)
      | (with_reducible exact ih2 _ _ _)
      | (with_reducible exact LeO.refl _)
      | (with_reducible exact LeO.none _)
      | (with_reducible refine LeO.ite ?_ ?_)
      | (with_reducible refine LeO.bind ?_ (fun _ => ?_))
      | exact ih0 _ _ _ _
      | exact ih1 _ _ _ _ _ _
      | exact ih2 _ _ _
      | exact LeO.none _
      | refine LeO.ite ?_ ?_
      | refine LeO.bind ?_ (fun _ => ?_)
theorem joistlaw12_ClassRises.mono : ∀ a0 a1 k, LeO (joistlaw12_ClassRises.f k a0 a1) (joistlaw12_ClassRises.f (k + 1) a0 a1) := by
  intro a0 a1 k
  obtain ⟨ih0, ih1, ih2⟩ := joistlaw12_ClassRises.mono_l k
  unfold joistlaw12_ClassRises.f
  repeat' first
      | (with_reducible exact ih0 _ _ _ _)
      | (with_reducible exact ih1 _ _ _ _ _ _)
      | (with_reducible exact ih2 _ _ _)
      | (with_reducible exact LeO.refl _)
      | (with_reducible exact LeO.none _)
      | (with_reducible refine LeO.ite ?_ ?_)
      | (with_reducible refine LeO.bind ?_ (fun _ => ?_))
      | exact ih0 _ _ _ _
      | exact ih1 _ _ _ _ _ _
      | exact ih2 _ _ _
      | exact LeO.none _
      | refine LeO.ite ?_ ?_
      | refine LeO.bind ?_ (fun _ => ?_)
set_option maxHeartbeats 8000000 in
set_option maxRecDepth 100000 in
theorem joistlaw12_ClassRises.calls (k : Nat) (a0 : Int) (a1 : Int) (r : Bool) (w : World) (h : joistlaw12_ClassRises.f k a0 a1 = some r) :
    Calls Try.prog 6 #[.int .i64 a0, .int .i64 a1] w fun e w' => e = .returned (.bool r) ∧ Below w.heap.size w w' := by
  have HB := Aside0.mk (Below.refl w.heap.size w)
  have H : ((joistlaw12_small.f).bind fun t184 => (if a0 > 1099511627776 then (joistlaw12_ClassRises.j0 k a0 a1 t184 true) else (joistlaw12_ClassRises.j0 k a0 a1 t184 (decide (a0 < (-1099511627776)))))) = some r := h
  clear h
  replace H := Option.bind_eq_some_iff.mp H
  obtain ⟨t184, A30, H⟩ := H
  replace H : (if a0 > 1099511627776 then (joistlaw12_ClassRises.j0 k a0 a1 t184 true) else (joistlaw12_ClassRises.j0 k a0 a1 t184 (decide (a0 < (-1099511627776))))) = some r := H
  have A3 := Aside0.mk A30
  clear A30
  have HC4 := Aside0.mk H
  clear H
  go_enter Try.func6, Try.ntmps6
  go_upto_region 2 with (first | ((with_reducible refine gate_callee (f := 14) rfl ?_); refine goesL_ (some 18) rfl rfl Try.func14 (by kernel_rfl) rfl #[] rfl (by (try simp only [List.map_toArray, List.map_cons, List.map_nil]); first | done | rfl | (simp only [List.length_drop, List.length_take]; rfl)) ?_; (with_reducible refine (joistlaw12_small.calls  t184 _ A3.out).mono ?_); rintro e w5 ⟨rfl, hb⟩; refine ⟨_, rfl, ?_⟩; have n0_ := Aside0.mk (below_step (by repeat (first | (with_reducible first | exact HB.out | apply below_alloc | apply pw_below_drewN | apply below_drew1) | exact HB.out)) hb); clear HB; have HB := n0_; clear n0_; (try clear hb); (try clear hb2); (try clear hk); (try clear hi)))
  (try simp only [Act.put, List.setIfInBounds_toArray, List.set_cons_zero, List.set_cons_succ])
  go_cut [24] (fun v24 wc => ∃ (kq : Nat) (x24_3 : Bool), v24 = .bool x24_3 ∧ Aside0 (joistlaw12_ClassRises.j0 kq a0 a1 t184 x24_3 = some r) ∧ Aside0 (kq ≤ k) ∧ Aside0 (Below w.heap.size w wc))
  case first =>
    have H := HC4.out
    clear HC4
    by_cases c6 : a0 > 1099511627776
    · rw [if_pos c6] at H
      have c6b0 : decide (1099511627776 < a0) = true := decide_eq_true c6
      clear c6
      (first | rw [c6b0] | (simp only [i64_w, i32_w]; rw [c6b0]) | skip)
      have H' := Aside0.mk H
      clear H
      go_wp2
      go_meet
      case rel => exact ⟨_, (true), (by first | rfl | (simp; done) | (simp [*]; done)), H', ⟨by first | omega | exact Nat.le_refl _⟩, ⟨by repeat (first | (with_reducible first | exact HB.out | apply below_alloc | apply pw_below_drewN | apply below_drew1) | exact HB.out)⟩⟩
    · rw [if_neg c6] at H
      have c6b0 : decide (1099511627776 < a0) = false := decide_eq_false c6
      clear c6
      (first | rw [c6b0] | (simp only [i64_w, i32_w]; rw [c6b0]) | skip)
      have H' := Aside0.mk H
      clear H
      go_wp2
      go_meet
      case rel => exact ⟨_, (decide (a0 < (-1099511627776))), (by first | rfl | (simp; done) | (simp [*]; done)), H', ⟨by first | omega | exact Nat.le_refl _⟩, ⟨by repeat (first | (with_reducible first | exact HB.out | apply below_alloc | apply pw_below_drewN | apply below_drew1) | exact HB.out)⟩⟩
  case rest =>
    clear HC4
    try clear c1
    try clear p2
    try clear c6
    try clear c6b0
    obtain ⟨kq, x24_3, rfl, HA, HJ3, HB⟩ := hcut
    cases kq with
    | zero => exact absurd HA.out (by simp [joistlaw12_ClassRises.j0])
    | succ kj3 =>
      have H := HA.out
      clear HA
      simp only [joistlaw12_ClassRises.j0] at H
      by_cases c7 : x24_3 = true
      · subst c7
        have H1 : (some t184) = some r := by rw [if_pos rfl] at H; exact H
        clear H
        have H := H1
        clear H1
        obtain rfl := Option.some.inj H
        go_wp2
        go_ret
        exact ⟨by first | rfl | (simp [errW_none, errW_some] <;> rfl) | (simp [*, errW_none, errW_some] <;> rfl), by repeat (first | (with_reducible first | exact HB.out | apply below_alloc | apply pw_below_drewN | apply below_drew1) | exact HB.out)⟩
      · replace c7 := Bool.eq_false_iff.mpr c7
        subst c7
        have H1 : ((class_Of.f a0).bind fun bt185 => ((class_Of.f (wrap64 (a0 + 1))).bind fun bt187 => ((class_Pages.f a0).bind fun bt189 => ((class_Pages.f (wrap64 (a0 + 1))).bind fun bt191 => (if bt185.2 = true then (if bt187.2 = true then (if bt187.1 < bt185.1 then (joistlaw12_ClassRises.j1 kj3 a0 a1 t184 bt185.2 bt189.2 true) else (if bt187.1 > (wrap64 (bt185.1 + 1)) then (joistlaw12_ClassRises.j1 kj3 a0 a1 t184 bt185.2 bt189.2 true) else (if bt189.2 = 0 then (joistlaw12_ClassRises.j1 kj3 a0 a1 t184 bt185.2 bt189.2 true) else (joistlaw12_ClassRises.j1 kj3 a0 a1 t184 bt185.2 bt189.2 false)))) else (if bt189.2 = 0 then (joistlaw12_ClassRises.j1 kj3 a0 a1 t184 bt185.2 bt189.2 true) else (joistlaw12_ClassRises.j1 kj3 a0 a1 t184 bt185.2 bt189.2 false))) else (if bt189.2 = 0 then (if bt191.2 = 0 then (if bt191.1 < bt189.1 then (joistlaw12_ClassRises.j1 kj3 a0 a1 t184 bt185.2 bt189.2 true) else (joistlaw12_ClassRises.j1 kj3 a0 a1 t184 bt185.2 bt189.2 (decide (bt191.1 > (wrap64 (bt189.1 + 1)))))) else (joistlaw12_ClassRises.j1 kj3 a0 a1 t184 bt185.2 bt189.2 false)) else (joistlaw12_ClassRises.j1 kj3 a0 a1 t184 bt185.2 bt189.2 false))))))) = some r := by rw [if_neg (show ¬ (false = true) by decide)] at H; exact H
        clear H
        have H := H1
        clear H1
        replace H := Option.bind_eq_some_iff.mp H
        obtain ⟨⟨t185, t186⟩, A80, H⟩ := H
        replace H : ((class_Of.f (wrap64 (a0 + 1))).bind fun bt187 => ((class_Pages.f a0).bind fun bt189 => ((class_Pages.f (wrap64 (a0 + 1))).bind fun bt191 => (if t186 = true then (if bt187.2 = true then (if bt187.1 < t185 then (joistlaw12_ClassRises.j1 kj3 a0 a1 t184 t186 bt189.2 true) else (if bt187.1 > (wrap64 (t185 + 1)) then (joistlaw12_ClassRises.j1 kj3 a0 a1 t184 t186 bt189.2 true) else (if bt189.2 = 0 then (joistlaw12_ClassRises.j1 kj3 a0 a1 t184 t186 bt189.2 true) else (joistlaw12_ClassRises.j1 kj3 a0 a1 t184 t186 bt189.2 false)))) else (if bt189.2 = 0 then (joistlaw12_ClassRises.j1 kj3 a0 a1 t184 t186 bt189.2 true) else (joistlaw12_ClassRises.j1 kj3 a0 a1 t184 t186 bt189.2 false))) else (if bt189.2 = 0 then (if bt191.2 = 0 then (if bt191.1 < bt189.1 then (joistlaw12_ClassRises.j1 kj3 a0 a1 t184 t186 bt189.2 true) else (joistlaw12_ClassRises.j1 kj3 a0 a1 t184 t186 bt189.2 (decide (bt191.1 > (wrap64 (bt189.1 + 1)))))) else (joistlaw12_ClassRises.j1 kj3 a0 a1 t184 t186 bt189.2 false)) else (joistlaw12_ClassRises.j1 kj3 a0 a1 t184 t186 bt189.2 false)))))) = some r := H
        have A8 := Aside0.mk A80
        clear A80
        replace H := Option.bind_eq_some_iff.mp H
        obtain ⟨⟨t187, t188⟩, A90, H⟩ := H
        replace H : ((class_Pages.f a0).bind fun bt189 => ((class_Pages.f (wrap64 (a0 + 1))).bind fun bt191 => (if t186 = true then (if t188 = true then (if t187 < t185 then (joistlaw12_ClassRises.j1 kj3 a0 a1 t184 t186 bt189.2 true) else (if t187 > (wrap64 (t185 + 1)) then (joistlaw12_ClassRises.j1 kj3 a0 a1 t184 t186 bt189.2 true) else (if bt189.2 = 0 then (joistlaw12_ClassRises.j1 kj3 a0 a1 t184 t186 bt189.2 true) else (joistlaw12_ClassRises.j1 kj3 a0 a1 t184 t186 bt189.2 false)))) else (if bt189.2 = 0 then (joistlaw12_ClassRises.j1 kj3 a0 a1 t184 t186 bt189.2 true) else (joistlaw12_ClassRises.j1 kj3 a0 a1 t184 t186 bt189.2 false))) else (if bt189.2 = 0 then (if bt191.2 = 0 then (if bt191.1 < bt189.1 then (joistlaw12_ClassRises.j1 kj3 a0 a1 t184 t186 bt189.2 true) else (joistlaw12_ClassRises.j1 kj3 a0 a1 t184 t186 bt189.2 (decide (bt191.1 > (wrap64 (bt189.1 + 1)))))) else (joistlaw12_ClassRises.j1 kj3 a0 a1 t184 t186 bt189.2 false)) else (joistlaw12_ClassRises.j1 kj3 a0 a1 t184 t186 bt189.2 false))))) = some r := H
        have A9 := Aside0.mk A90
        clear A90
        replace H := Option.bind_eq_some_iff.mp H
        obtain ⟨⟨t189, t190⟩, A100, H⟩ := H
        replace H : ((class_Pages.f (wrap64 (a0 + 1))).bind fun bt191 => (if t186 = true then (if t188 = true then (if t187 < t185 then (joistlaw12_ClassRises.j1 kj3 a0 a1 t184 t186 t190 true) else (if t187 > (wrap64 (t185 + 1)) then (joistlaw12_ClassRises.j1 kj3 a0 a1 t184 t186 t190 true) else (if t190 = 0 then (joistlaw12_ClassRises.j1 kj3 a0 a1 t184 t186 t190 true) else (joistlaw12_ClassRises.j1 kj3 a0 a1 t184 t186 t190 false)))) else (if t190 = 0 then (joistlaw12_ClassRises.j1 kj3 a0 a1 t184 t186 t190 true) else (joistlaw12_ClassRises.j1 kj3 a0 a1 t184 t186 t190 false))) else (if t190 = 0 then (if bt191.2 = 0 then (if bt191.1 < t189 then (joistlaw12_ClassRises.j1 kj3 a0 a1 t184 t186 t190 true) else (joistlaw12_ClassRises.j1 kj3 a0 a1 t184 t186 t190 (decide (bt191.1 > (wrap64 (t189 + 1)))))) else (joistlaw12_ClassRises.j1 kj3 a0 a1 t184 t186 t190 false)) else (joistlaw12_ClassRises.j1 kj3 a0 a1 t184 t186 t190 false)))) = some r := H
        have A10 := Aside0.mk A100
        clear A100
        replace H := Option.bind_eq_some_iff.mp H
        obtain ⟨⟨t191, t192⟩, A110, H⟩ := H
        replace H : (if t186 = true then (if t188 = true then (if t187 < t185 then (joistlaw12_ClassRises.j1 kj3 a0 a1 t184 t186 t190 true) else (if t187 > (wrap64 (t185 + 1)) then (joistlaw12_ClassRises.j1 kj3 a0 a1 t184 t186 t190 true) else (if t190 = 0 then (joistlaw12_ClassRises.j1 kj3 a0 a1 t184 t186 t190 true) else (joistlaw12_ClassRises.j1 kj3 a0 a1 t184 t186 t190 false)))) else (if t190 = 0 then (joistlaw12_ClassRises.j1 kj3 a0 a1 t184 t186 t190 true) else (joistlaw12_ClassRises.j1 kj3 a0 a1 t184 t186 t190 false))) else (if t190 = 0 then (if t192 = 0 then (if t191 < t189 then (joistlaw12_ClassRises.j1 kj3 a0 a1 t184 t186 t190 true) else (joistlaw12_ClassRises.j1 kj3 a0 a1 t184 t186 t190 (decide (t191 > (wrap64 (t189 + 1)))))) else (joistlaw12_ClassRises.j1 kj3 a0 a1 t184 t186 t190 false)) else (joistlaw12_ClassRises.j1 kj3 a0 a1 t184 t186 t190 false))) = some r := H
        have A11 := Aside0.mk A110
        clear A110
        have HC12 := Aside0.mk H
        clear H
        go_upto_region 8 with (first | ((with_reducible refine gate_callee (f := 15) rfl ?_); refine goesL_ (some 28) rfl rfl Try.func15 (by kernel_rfl) rfl #[.int .i64 a0] rfl (by (try simp only [List.map_toArray, List.map_cons, List.map_nil]); first | done | rfl | (simp only [List.length_drop, List.length_take]; rfl)) ?_; (with_reducible refine (class_Of.calls a0 t185 t186 _ A8.out).mono ?_); rintro e w13 ⟨rfl, hb⟩; refine ⟨_, rfl, ?_⟩; have n0_ := Aside0.mk (below_step (by repeat (first | (with_reducible first | exact HB.out | apply below_alloc | apply pw_below_drewN | apply below_drew1) | exact HB.out)) hb); clear HB; have HB := n0_; clear n0_; (try clear hb); (try clear hb2); (try clear hk); (try clear hi)) | ((with_reducible refine gate_callee (f := 15) rfl ?_); refine goesL_ (some 34) rfl rfl Try.func15 (by kernel_rfl) rfl #[.int .i64 (wrap64 (a0 + 1))] rfl (by (try simp only [List.map_toArray, List.map_cons, List.map_nil]); first | done | rfl | (simp only [List.length_drop, List.length_take]; rfl)) ?_; (with_reducible refine (class_Of.calls (wrap64 (a0 + 1)) t187 t188 _ A9.out).mono ?_); rintro e w14 ⟨rfl, hb⟩; refine ⟨_, rfl, ?_⟩; have n0_ := Aside0.mk (below_step (by repeat (first | (with_reducible first | exact HB.out | apply below_alloc | apply pw_below_drewN | apply below_drew1) | exact HB.out)) hb); clear HB; have HB := n0_; clear n0_; (try clear hb); (try clear hb2); (try clear hk); (try clear hi)) | ((with_reducible refine gate_callee (f := 21) rfl ?_); refine goesL_ (some 39) rfl rfl Try.func21 (by kernel_rfl) rfl #[.int .i64 a0] rfl (by (try simp only [List.map_toArray, List.map_cons, List.map_nil]); first | done | rfl | (simp only [List.length_drop, List.length_take]; rfl)) ?_; (with_reducible refine (class_Pages.calls a0 t189 t190 _ A10.out).mono ?_); rintro e w15 ⟨rfl, hb⟩; refine ⟨_, rfl, ?_⟩; have n0_ := Aside0.mk (below_step (by repeat (first | (with_reducible first | exact HB.out | apply below_alloc | apply pw_below_drewN | apply below_drew1) | exact HB.out)) hb); clear HB; have HB := n0_; clear n0_; (try clear hb); (try clear hb2); (try clear hk); (try clear hi)) | ((with_reducible refine gate_callee (f := 21) rfl ?_); refine goesL_ (some 45) rfl rfl Try.func21 (by kernel_rfl) rfl #[.int .i64 (wrap64 (a0 + 1))] rfl (by (try simp only [List.map_toArray, List.map_cons, List.map_nil]); first | done | rfl | (simp only [List.length_drop, List.length_take]; rfl)) ?_; (with_reducible refine (class_Pages.calls (wrap64 (a0 + 1)) t191 t192 _ A11.out).mono ?_); rintro e w16 ⟨rfl, hb⟩; refine ⟨_, rfl, ?_⟩; have n0_ := Aside0.mk (below_step (by repeat (first | (with_reducible first | exact HB.out | apply below_alloc | apply pw_below_drewN | apply below_drew1) | exact HB.out)) hb); clear HB; have HB := n0_; clear n0_; (try clear hb); (try clear hb2); (try clear hk); (try clear hi)))
        (try simp only [Act.put, List.setIfInBounds_toArray, List.set_cons_zero, List.set_cons_succ])
        go_cut [88] (fun v88 wc => ∃ (kq : Nat) (x88_11 : Bool), v88 = .bool x88_11 ∧ Aside0 (joistlaw12_ClassRises.j1 kq a0 a1 t184 t186 t190 x88_11 = some r) ∧ Aside0 (kq ≤ kj3) ∧ Aside0 (Below w.heap.size w wc))
        case first =>
          have H := HC12.out
          clear HC12
          by_cases c17 : t186 = true
          · subst c17
            have H1 : (if t188 = true then (if t187 < t185 then (joistlaw12_ClassRises.j1 kj3 a0 a1 t184 true t190 true) else (if t187 > (wrap64 (t185 + 1)) then (joistlaw12_ClassRises.j1 kj3 a0 a1 t184 true t190 true) else (if t190 = 0 then (joistlaw12_ClassRises.j1 kj3 a0 a1 t184 true t190 true) else (joistlaw12_ClassRises.j1 kj3 a0 a1 t184 true t190 false)))) else (if t190 = 0 then (joistlaw12_ClassRises.j1 kj3 a0 a1 t184 true t190 true) else (joistlaw12_ClassRises.j1 kj3 a0 a1 t184 true t190 false))) = some r := by rw [if_pos rfl] at H; exact H
            clear H
            have H := H1
            clear H1
            by_cases c18 : t188 = true
            · subst c18
              have H1 : (if t187 < t185 then (joistlaw12_ClassRises.j1 kj3 a0 a1 t184 true t190 true) else (if t187 > (wrap64 (t185 + 1)) then (joistlaw12_ClassRises.j1 kj3 a0 a1 t184 true t190 true) else (if t190 = 0 then (joistlaw12_ClassRises.j1 kj3 a0 a1 t184 true t190 true) else (joistlaw12_ClassRises.j1 kj3 a0 a1 t184 true t190 false)))) = some r := by rw [if_pos rfl] at H; exact H
              clear H
              have H := H1
              clear H1
              by_cases c19 : t187 < t185
              · rw [if_pos c19] at H
                have c19b0 : decide (t187 < t185) = true := decide_eq_true c19
                clear c19
                (first | rw [c19b0] | (simp only [i64_w, i32_w]; rw [c19b0]) | skip)
                have H' := Aside0.mk H
                clear H
                go_wp2
                go_meet
                case rel => exact ⟨_, (true), (by first | rfl | (simp; done) | (simp [*]; done)), H', ⟨by have := HJ3.out; first | omega | exact Nat.le_refl _⟩, ⟨by repeat (first | (with_reducible first | exact HB.out | apply below_alloc | apply pw_below_drewN | apply below_drew1) | exact HB.out)⟩⟩
              · rw [if_neg c19] at H
                have c19b0 : decide (t187 < t185) = false := decide_eq_false c19
                clear c19
                (first | rw [c19b0] | (simp only [i64_w, i32_w]; rw [c19b0]) | skip)
                by_cases c20 : t187 > (wrap64 (t185 + 1))
                · rw [if_pos c20] at H
                  have c20b0 : decide ((wrap64 (t185 + 1)) < t187) = true := decide_eq_true c20
                  clear c20
                  have H' := Aside0.mk H
                  clear H
                  go_wp2
                  go_meet
                  case rel => exact ⟨_, (true), (by first | rfl | (simp; done) | (simp [*]; done)), H', ⟨by have := HJ3.out; first | omega | exact Nat.le_refl _⟩, ⟨by repeat (first | (with_reducible first | exact HB.out | apply below_alloc | apply pw_below_drewN | apply below_drew1) | exact HB.out)⟩⟩
                · rw [if_neg c20] at H
                  have c20b0 : decide ((wrap64 (t185 + 1)) < t187) = false := decide_eq_false c20
                  clear c20
                  by_cases c21 : t190 = 0
                  · rw [if_pos c21] at H
                    have c21b0 : (t190 == 0) = true := beq_iff_eq.mpr c21
                    have c21b1 : (t190 != 0) = false := bne_eq_false_iff_eq.mpr c21
                    clear c21
                    have H' := Aside0.mk H
                    clear H
                    go_wp2
                    go_meet
                    case rel => exact ⟨_, (true), (by first | rfl | (simp; done) | (simp [*]; done)), H', ⟨by have := HJ3.out; first | omega | exact Nat.le_refl _⟩, ⟨by repeat (first | (with_reducible first | exact HB.out | apply below_alloc | apply pw_below_drewN | apply below_drew1) | exact HB.out)⟩⟩
                  · rw [if_neg c21] at H
                    have c21b0 : (t190 == 0) = false := beq_eq_false_iff_ne.mpr c21
                    have c21b1 : (t190 != 0) = true := bne_iff_ne.mpr c21
                    have H' := Aside0.mk H
                    clear H
                    go_wp2
                    go_meet
                    case rel => exact ⟨_, (false), (by first | rfl | (simp; done) | (simp [*]; done)), H', ⟨by have := HJ3.out; first | omega | exact Nat.le_refl _⟩, ⟨by repeat (first | (with_reducible first | exact HB.out | apply below_alloc | apply pw_below_drewN | apply below_drew1) | exact HB.out)⟩⟩
            · replace c18 := Bool.eq_false_iff.mpr c18
              subst c18
              have H1 : (if t190 = 0 then (joistlaw12_ClassRises.j1 kj3 a0 a1 t184 true t190 true) else (joistlaw12_ClassRises.j1 kj3 a0 a1 t184 true t190 false)) = some r := by rw [if_neg (show ¬ (false = true) by decide)] at H; exact H
              clear H
              have H := H1
              clear H1
              by_cases c22 : t190 = 0
              · rw [if_pos c22] at H
                have c22b0 : (t190 == 0) = true := beq_iff_eq.mpr c22
                have c22b1 : (t190 != 0) = false := bne_eq_false_iff_eq.mpr c22
                clear c22
                have H' := Aside0.mk H
                clear H
                go_wp2
                go_meet
                case rel => exact ⟨_, (true), (by first | rfl | (simp; done) | (simp [*]; done)), H', ⟨by have := HJ3.out; first | omega | exact Nat.le_refl _⟩, ⟨by repeat (first | (with_reducible first | exact HB.out | apply below_alloc | apply pw_below_drewN | apply below_drew1) | exact HB.out)⟩⟩
              · rw [if_neg c22] at H
                have c22b0 : (t190 == 0) = false := beq_eq_false_iff_ne.mpr c22
                have c22b1 : (t190 != 0) = true := bne_iff_ne.mpr c22
                have H' := Aside0.mk H
                clear H
                go_wp2
                go_meet
                case rel => exact ⟨_, (false), (by first | rfl | (simp; done) | (simp [*]; done)), H', ⟨by have := HJ3.out; first | omega | exact Nat.le_refl _⟩, ⟨by repeat (first | (with_reducible first | exact HB.out | apply below_alloc | apply pw_below_drewN | apply below_drew1) | exact HB.out)⟩⟩
          · replace c17 := Bool.eq_false_iff.mpr c17
            subst c17
            have H1 : (if t190 = 0 then (if t192 = 0 then (if t191 < t189 then (joistlaw12_ClassRises.j1 kj3 a0 a1 t184 false t190 true) else (joistlaw12_ClassRises.j1 kj3 a0 a1 t184 false t190 (decide (t191 > (wrap64 (t189 + 1)))))) else (joistlaw12_ClassRises.j1 kj3 a0 a1 t184 false t190 false)) else (joistlaw12_ClassRises.j1 kj3 a0 a1 t184 false t190 false)) = some r := by rw [if_neg (show ¬ (false = true) by decide)] at H; exact H
            clear H
            have H := H1
            clear H1
            by_cases c23 : t190 = 0
            · rw [if_pos c23] at H
              have c23b0 : (t190 == 0) = true := beq_iff_eq.mpr c23
              have c23b1 : (t190 != 0) = false := bne_eq_false_iff_eq.mpr c23
              clear c23
              by_cases c24 : t192 = 0
              · rw [if_pos c24] at H
                have c24b0 : (t192 == 0) = true := beq_iff_eq.mpr c24
                have c24b1 : (t192 != 0) = false := bne_eq_false_iff_eq.mpr c24
                clear c24
                by_cases c25 : t191 < t189
                · rw [if_pos c25] at H
                  have c25b0 : decide (t191 < t189) = true := decide_eq_true c25
                  clear c25
                  have H' := Aside0.mk H
                  clear H
                  go_wp2
                  go_meet
                  case rel => exact ⟨_, (true), (by first | rfl | (simp; done) | (simp [*]; done)), H', ⟨by have := HJ3.out; first | omega | exact Nat.le_refl _⟩, ⟨by repeat (first | (with_reducible first | exact HB.out | apply below_alloc | apply pw_below_drewN | apply below_drew1) | exact HB.out)⟩⟩
                · rw [if_neg c25] at H
                  have c25b0 : decide (t191 < t189) = false := decide_eq_false c25
                  clear c25
                  have H' := Aside0.mk H
                  clear H
                  go_wp2
                  go_meet
                  case rel => exact ⟨_, (decide (t191 > (wrap64 (t189 + 1)))), (by first | rfl | (simp; done) | (simp [*]; done)), H', ⟨by have := HJ3.out; first | omega | exact Nat.le_refl _⟩, ⟨by repeat (first | (with_reducible first | exact HB.out | apply below_alloc | apply pw_below_drewN | apply below_drew1) | exact HB.out)⟩⟩
              · rw [if_neg c24] at H
                have c24b0 : (t192 == 0) = false := beq_eq_false_iff_ne.mpr c24
                have c24b1 : (t192 != 0) = true := bne_iff_ne.mpr c24
                have H' := Aside0.mk H
                clear H
                go_wp2
                go_meet
                case rel => exact ⟨_, (false), (by first | rfl | (simp; done) | (simp [*]; done)), H', ⟨by have := HJ3.out; first | omega | exact Nat.le_refl _⟩, ⟨by repeat (first | (with_reducible first | exact HB.out | apply below_alloc | apply pw_below_drewN | apply below_drew1) | exact HB.out)⟩⟩
            · rw [if_neg c23] at H
              have c23b0 : (t190 == 0) = false := beq_eq_false_iff_ne.mpr c23
              have c23b1 : (t190 != 0) = true := bne_iff_ne.mpr c23
              have H' := Aside0.mk H
              clear H
              go_wp2
              go_meet
              case rel => exact ⟨_, (false), (by first | rfl | (simp; done) | (simp [*]; done)), H', ⟨by have := HJ3.out; first | omega | exact Nat.le_refl _⟩, ⟨by repeat (first | (with_reducible first | exact HB.out | apply below_alloc | apply pw_below_drewN | apply below_drew1) | exact HB.out)⟩⟩
        case rest =>
          clear HC12
          try clear c1
          try clear c2
          try clear p2
          try clear c6
          try clear c6b0
          try clear p6
          try clear c7
          try clear c14
          try clear c15
          try clear c17
          try clear c18
          try clear c19
          try clear c19b0
          try clear c20
          try clear c20b0
          try clear c21
          try clear c21b0
          try clear c21b1
          try clear c22
          try clear c22b0
          try clear c22b1
          try clear c23
          try clear c23b0
          try clear c23b1
          try clear c24
          try clear c24b0
          try clear c24b1
          try clear c25
          try clear c25b0
          try clear p2
          obtain ⟨kq, x88_11, rfl, HA, HJ11, HB⟩ := hcut
          cases kq with
          | zero => exact absurd HA.out (by simp [joistlaw12_ClassRises.j1])
          | succ kj11 =>
            have H := HA.out
            clear HA
            simp only [joistlaw12_ClassRises.j1] at H
            by_cases c26 : x88_11 = true
            · subst c26
              have H1 : (some false) = some r := by rw [if_pos rfl] at H; exact H
              clear H
              have H := H1
              clear H1
              obtain rfl := Option.some.inj H
              go_wp2
              go_ret
              exact ⟨by first | rfl | (simp [errW_none, errW_some] <;> rfl) | (simp [*, errW_none, errW_some] <;> rfl), by repeat (first | (with_reducible first | exact HB.out | apply below_alloc | apply pw_below_drewN | apply below_drew1) | exact HB.out)⟩
            · replace c26 := Bool.eq_false_iff.mpr c26
              subst c26
              have H1 : (if t186 = true then (if a0 ≥ 1 then (joistlaw12_ClassRises.j2 kj11 a1 t184 (true != (decide (a0 ≤ 2048)))) else (joistlaw12_ClassRises.j2 kj11 a1 t184 (true != false))) else (if a0 ≥ 1 then (joistlaw12_ClassRises.j2 kj11 a1 t184 ((t190 == 0) != (decide (a0 ≤ 2048)))) else (joistlaw12_ClassRises.j2 kj11 a1 t184 ((t190 == 0) != false)))) = some r := by rw [if_neg (show ¬ (false = true) by decide)] at H; exact H
              clear H
              have H := H1
              clear H1
              have HC27 := Aside0.mk H
              clear H
              go_upto_region 10 with (fail)
              go_cut [100] (fun v100 wc => ∃ (kq : Nat) (x100_26 : Bool), v100 = .bool x100_26 ∧ Aside0 (joistlaw12_ClassRises.j2 kq a1 t184 x100_26 = some r) ∧ Aside0 (kq ≤ kj11) ∧ Aside0 (Below w.heap.size w wc))
              case first =>
                have H := HC27.out
                clear HC27
                by_cases c28 : t186 = true
                · subst c28
                  have H1 : (if a0 ≥ 1 then (joistlaw12_ClassRises.j2 kj11 a1 t184 (true != (decide (a0 ≤ 2048)))) else (joistlaw12_ClassRises.j2 kj11 a1 t184 (true != false))) = some r := by rw [if_pos rfl] at H; exact H
                  clear H
                  have H := H1
                  clear H1
                  by_cases c29 : a0 ≥ 1
                  · rw [if_pos c29] at H
                    have c29b0 : decide (1 ≤ a0) = true := decide_eq_true c29
                    clear c29
                    (first | rw [c29b0] | (simp only [i64_w, i32_w]; rw [c29b0]) | skip)
                    have H' := Aside0.mk H
                    clear H
                    go_wp2
                    go_meet
                    case rel => exact ⟨_, ((true != (decide (a0 ≤ 2048)))), (by first | rfl | (simp; done) | (simp [*]; done)), H', ⟨by have := HJ3.out; have := HJ11.out; first | omega | exact Nat.le_refl _⟩, ⟨by repeat (first | (with_reducible first | exact HB.out | apply below_alloc | apply pw_below_drewN | apply below_drew1) | exact HB.out)⟩⟩
                  · rw [if_neg c29] at H
                    have c29b0 : decide (1 ≤ a0) = false := decide_eq_false c29
                    clear c29
                    (first | rw [c29b0] | (simp only [i64_w, i32_w]; rw [c29b0]) | skip)
                    have H' := Aside0.mk H
                    clear H
                    go_wp2
                    go_meet
                    case rel => exact ⟨_, ((true != false)), (by first | rfl | (simp; done) | (simp [*]; done)), H', ⟨by have := HJ3.out; have := HJ11.out; first | omega | exact Nat.le_refl _⟩, ⟨by repeat (first | (with_reducible first | exact HB.out | apply below_alloc | apply pw_below_drewN | apply below_drew1) | exact HB.out)⟩⟩
                · replace c28 := Bool.eq_false_iff.mpr c28
                  subst c28
                  have H1 : (if a0 ≥ 1 then (joistlaw12_ClassRises.j2 kj11 a1 t184 ((t190 == 0) != (decide (a0 ≤ 2048)))) else (joistlaw12_ClassRises.j2 kj11 a1 t184 ((t190 == 0) != false))) = some r := by rw [if_neg (show ¬ (false = true) by decide)] at H; exact H
                  clear H
                  have H := H1
                  clear H1
                  by_cases c30 : a0 ≥ 1
                  · rw [if_pos c30] at H
                    have c30b0 : decide (1 ≤ a0) = true := decide_eq_true c30
                    clear c30
                    have H' := Aside0.mk H
                    clear H
                    go_wp2
                    go_meet
                    case rel => exact ⟨_, (((t190 == 0) != (decide (a0 ≤ 2048)))), (by first | rfl | (simp; done) | (simp [*]; done)), H', ⟨by have := HJ3.out; have := HJ11.out; first | omega | exact Nat.le_refl _⟩, ⟨by repeat (first | (with_reducible first | exact HB.out | apply below_alloc | apply pw_below_drewN | apply below_drew1) | exact HB.out)⟩⟩
                  · rw [if_neg c30] at H
                    have c30b0 : decide (1 ≤ a0) = false := decide_eq_false c30
                    clear c30
                    have H' := Aside0.mk H
                    clear H
                    go_wp2
                    go_meet
                    case rel => exact ⟨_, (((t190 == 0) != false)), (by first | rfl | (simp; done) | (simp [*]; done)), H', ⟨by have := HJ3.out; have := HJ11.out; first | omega | exact Nat.le_refl _⟩, ⟨by repeat (first | (with_reducible first | exact HB.out | apply below_alloc | apply pw_below_drewN | apply below_drew1) | exact HB.out)⟩⟩
              case rest =>
                clear HC27
                try clear c1
                try clear c2
                try clear p2
                try clear c3
                try clear c6
                try clear c6b0
                try clear p6
                try clear c7
                try clear c14
                try clear c15
                try clear c17
                try clear c18
                try clear c19
                try clear c19b0
                try clear c20
                try clear c20b0
                try clear c21
                try clear c21b0
                try clear c21b1
                try clear c22
                try clear c22b0
                try clear c22b1
                try clear c23
                try clear c23b0
                try clear c23b1
                try clear c24
                try clear c24b0
                try clear c24b1
                try clear c25
                try clear c25b0
                try clear c26
                try clear c28
                try clear c29
                try clear c29b0
                try clear c30
                try clear c30b0
                try clear p2
                try clear p6
                obtain ⟨kq, x100_26, rfl, HA, HJ26, HB⟩ := hcut
                cases kq with
                | zero => exact absurd HA.out (by simp [joistlaw12_ClassRises.j2])
                | succ kj26 =>
                  have H := HA.out
                  clear HA
                  simp only [joistlaw12_ClassRises.j2] at H
                  by_cases c31 : x100_26 = true
                  · subst c31
                    have H1 : (some false) = some r := by rw [if_pos rfl] at H; exact H
                    clear H
                    have H := H1
                    clear H1
                    obtain rfl := Option.some.inj H
                    go_wp2
                    go_ret
                    exact ⟨by first | rfl | (simp [errW_none, errW_some] <;> rfl) | (simp [*, errW_none, errW_some] <;> rfl), by repeat (first | (with_reducible first | exact HB.out | apply below_alloc | apply pw_below_drewN | apply below_drew1) | exact HB.out)⟩
                  · replace c31 := Bool.eq_false_iff.mpr c31
                    subst c31
                    have H1 : ((class_Cells.f a1).bind fun bt193 => (if bt193.2 = 0 then ((class_Cells.f (wrap64 (a1 + 1))).bind fun bt195 => (if t184 = true then (if bt193.1 ≥ 1 then (if bt195.2 = 0 then (some (decide (bt195.1 ≤ bt193.1))) else (if a1 = 5 then (some true) else (some false))) else (some false)) else (some false))) else (if t184 = true then (some (bt193.1 == 0)) else (some false)))) = some r := by rw [if_neg (show ¬ (false = true) by decide)] at H; exact H
                    clear H
                    have H := H1
                    clear H1
                    replace H := Option.bind_eq_some_iff.mp H
                    obtain ⟨⟨t193, t194⟩, A320, H⟩ := H
                    replace H : (if t194 = 0 then ((class_Cells.f (wrap64 (a1 + 1))).bind fun bt195 => (if t184 = true then (if t193 ≥ 1 then (if bt195.2 = 0 then (some (decide (bt195.1 ≤ t193))) else (if a1 = 5 then (some true) else (some false))) else (some false)) else (some false))) else (if t184 = true then (some (t193 == 0)) else (some false))) = some r := H
                    have A32 := Aside0.mk A320
                    clear A320
                    by_cases c33 : t194 = 0
                    · rw [if_pos c33] at H
                      have c33b0 : (t194 == 0) = true := beq_iff_eq.mpr c33
                      have c33b1 : (t194 != 0) = false := bne_eq_false_iff_eq.mpr c33
                      clear c33
                      replace H := Option.bind_eq_some_iff.mp H
                      obtain ⟨⟨t195, t196⟩, A340, H⟩ := H
                      replace H : (if t184 = true then (if t193 ≥ 1 then (if t196 = 0 then (some (decide (t195 ≤ t193))) else (if a1 = 5 then (some true) else (some false))) else (some false)) else (some false)) = some r := H
                      have A34 := Aside0.mk A340
                      clear A340
                      by_cases c35 : t184 = true
                      · subst c35
                        have H1 : (if t193 ≥ 1 then (if t196 = 0 then (some (decide (t195 ≤ t193))) else (if a1 = 5 then (some true) else (some false))) else (some false)) = some r := by rw [if_pos rfl] at H; exact H
                        clear H
                        have H := H1
                        clear H1
                        by_cases c36 : t193 ≥ 1
                        · rw [if_pos c36] at H
                          have c36b0 : decide (1 ≤ t193) = true := decide_eq_true c36
                          clear c36
                          by_cases c37 : t196 = 0
                          · rw [if_pos c37] at H
                            have c37b0 : (t196 == 0) = true := beq_iff_eq.mpr c37
                            have c37b1 : (t196 != 0) = false := bne_eq_false_iff_eq.mpr c37
                            clear c37
                            obtain rfl := Option.some.inj H
                            go_wp2_with (first | ((with_reducible refine gate_callee (f := 19) rfl ?_); refine goesL_ (some 103) rfl rfl Try.func19 (by kernel_rfl) rfl #[.int .i64 a1] rfl (by (try simp only [List.map_toArray, List.map_cons, List.map_nil]); first | done | rfl | (simp only [List.length_drop, List.length_take]; rfl)) ?_; (with_reducible refine (class_Cells.calls a1 t193 t194 _ A32.out).mono ?_); rintro e w38 ⟨rfl, hb⟩; refine ⟨_, rfl, ?_⟩; have n0_ := Aside0.mk (below_step (by repeat (first | (with_reducible first | exact HB.out | apply below_alloc | apply pw_below_drewN | apply below_drew1) | exact HB.out)) hb); clear HB; have HB := n0_; clear n0_; (try clear hb); (try clear hb2); (try clear hk); (try clear hi)) | ((with_reducible refine gate_callee (f := 19) rfl ?_); refine goesL_ (some 116) rfl rfl Try.func19 (by kernel_rfl) rfl #[.int .i64 (wrap64 (a1 + 1))] rfl (by (try simp only [List.map_toArray, List.map_cons, List.map_nil]); first | done | rfl | (simp only [List.length_drop, List.length_take]; rfl)) ?_; (with_reducible refine (class_Cells.calls (wrap64 (a1 + 1)) t195 t196 _ A34.out).mono ?_); rintro e w39 ⟨rfl, hb⟩; refine ⟨_, rfl, ?_⟩; have n0_ := Aside0.mk (below_step (by repeat (first | (with_reducible first | exact HB.out | apply below_alloc | apply pw_below_drewN | apply below_drew1) | exact HB.out)) hb); clear HB; have HB := n0_; clear n0_; (try clear hb); (try clear hb2); (try clear hk); (try clear hi)))
                            go_ret
                            exact ⟨by first | rfl | (simp [errW_none, errW_some] <;> rfl) | (simp [*, errW_none, errW_some] <;> rfl), by repeat (first | (with_reducible first | exact HB.out | apply below_alloc | apply pw_below_drewN | apply below_drew1) | exact HB.out)⟩
                          · rw [if_neg c37] at H
                            have c37b0 : (t196 == 0) = false := beq_eq_false_iff_ne.mpr c37
                            have c37b1 : (t196 != 0) = true := bne_iff_ne.mpr c37
                            by_cases c40 : a1 = 5
                            · rw [if_pos c40] at H
                              have c40b0 : (a1 == 5) = true := beq_iff_eq.mpr c40
                              have c40b1 : (a1 != 5) = false := bne_eq_false_iff_eq.mpr c40
                              clear c40
                              obtain rfl := Option.some.inj H
                              go_wp2_with (first | ((with_reducible refine gate_callee (f := 19) rfl ?_); refine goesL_ (some 103) rfl rfl Try.func19 (by kernel_rfl) rfl #[.int .i64 a1] rfl (by (try simp only [List.map_toArray, List.map_cons, List.map_nil]); first | done | rfl | (simp only [List.length_drop, List.length_take]; rfl)) ?_; (with_reducible refine (class_Cells.calls a1 t193 t194 _ A32.out).mono ?_); rintro e w41 ⟨rfl, hb⟩; refine ⟨_, rfl, ?_⟩; have n0_ := Aside0.mk (below_step (by repeat (first | (with_reducible first | exact HB.out | apply below_alloc | apply pw_below_drewN | apply below_drew1) | exact HB.out)) hb); clear HB; have HB := n0_; clear n0_; (try clear hb); (try clear hb2); (try clear hk); (try clear hi)) | ((with_reducible refine gate_callee (f := 19) rfl ?_); refine goesL_ (some 116) rfl rfl Try.func19 (by kernel_rfl) rfl #[.int .i64 (wrap64 (a1 + 1))] rfl (by (try simp only [List.map_toArray, List.map_cons, List.map_nil]); first | done | rfl | (simp only [List.length_drop, List.length_take]; rfl)) ?_; (with_reducible refine (class_Cells.calls (wrap64 (a1 + 1)) t195 t196 _ A34.out).mono ?_); rintro e w42 ⟨rfl, hb⟩; refine ⟨_, rfl, ?_⟩; have n0_ := Aside0.mk (below_step (by repeat (first | (with_reducible first | exact HB.out | apply below_alloc | apply pw_below_drewN | apply below_drew1) | exact HB.out)) hb); clear HB; have HB := n0_; clear n0_; (try clear hb); (try clear hb2); (try clear hk); (try clear hi)))
                              go_ret
                              exact ⟨by first | rfl | (simp [errW_none, errW_some] <;> rfl) | (simp [*, errW_none, errW_some] <;> rfl), by repeat (first | (with_reducible first | exact HB.out | apply below_alloc | apply pw_below_drewN | apply below_drew1) | exact HB.out)⟩
                            · rw [if_neg c40] at H
                              have c40b0 : (a1 == 5) = false := beq_eq_false_iff_ne.mpr c40
                              have c40b1 : (a1 != 5) = true := bne_iff_ne.mpr c40
                              obtain rfl := Option.some.inj H
                              go_wp2_with (first | ((with_reducible refine gate_callee (f := 19) rfl ?_); refine goesL_ (some 103) rfl rfl Try.func19 (by kernel_rfl) rfl #[.int .i64 a1] rfl (by (try simp only [List.map_toArray, List.map_cons, List.map_nil]); first | done | rfl | (simp only [List.length_drop, List.length_take]; rfl)) ?_; (with_reducible refine (class_Cells.calls a1 t193 t194 _ A32.out).mono ?_); rintro e w43 ⟨rfl, hb⟩; refine ⟨_, rfl, ?_⟩; have n0_ := Aside0.mk (below_step (by repeat (first | (with_reducible first | exact HB.out | apply below_alloc | apply pw_below_drewN | apply below_drew1) | exact HB.out)) hb); clear HB; have HB := n0_; clear n0_; (try clear hb); (try clear hb2); (try clear hk); (try clear hi)) | ((with_reducible refine gate_callee (f := 19) rfl ?_); refine goesL_ (some 116) rfl rfl Try.func19 (by kernel_rfl) rfl #[.int .i64 (wrap64 (a1 + 1))] rfl (by (try simp only [List.map_toArray, List.map_cons, List.map_nil]); first | done | rfl | (simp only [List.length_drop, List.length_take]; rfl)) ?_; (with_reducible refine (class_Cells.calls (wrap64 (a1 + 1)) t195 t196 _ A34.out).mono ?_); rintro e w44 ⟨rfl, hb⟩; refine ⟨_, rfl, ?_⟩; have n0_ := Aside0.mk (below_step (by repeat (first | (with_reducible first | exact HB.out | apply below_alloc | apply pw_below_drewN | apply below_drew1) | exact HB.out)) hb); clear HB; have HB := n0_; clear n0_; (try clear hb); (try clear hb2); (try clear hk); (try clear hi)))
                              go_ret
                              exact ⟨by first | rfl | (simp [errW_none, errW_some] <;> rfl) | (simp [*, errW_none, errW_some] <;> rfl), by repeat (first | (with_reducible first | exact HB.out | apply below_alloc | apply pw_below_drewN | apply below_drew1) | exact HB.out)⟩
                        · rw [if_neg c36] at H
                          have c36b0 : decide (1 ≤ t193) = false := decide_eq_false c36
                          clear c36
                          obtain rfl := Option.some.inj H
                          go_wp2_with (first | ((with_reducible refine gate_callee (f := 19) rfl ?_); refine goesL_ (some 103) rfl rfl Try.func19 (by kernel_rfl) rfl #[.int .i64 a1] rfl (by (try simp only [List.map_toArray, List.map_cons, List.map_nil]); first | done | rfl | (simp only [List.length_drop, List.length_take]; rfl)) ?_; (with_reducible refine (class_Cells.calls a1 t193 t194 _ A32.out).mono ?_); rintro e w45 ⟨rfl, hb⟩; refine ⟨_, rfl, ?_⟩; have n0_ := Aside0.mk (below_step (by repeat (first | (with_reducible first | exact HB.out | apply below_alloc | apply pw_below_drewN | apply below_drew1) | exact HB.out)) hb); clear HB; have HB := n0_; clear n0_; (try clear hb); (try clear hb2); (try clear hk); (try clear hi)) | ((with_reducible refine gate_callee (f := 19) rfl ?_); refine goesL_ (some 116) rfl rfl Try.func19 (by kernel_rfl) rfl #[.int .i64 (wrap64 (a1 + 1))] rfl (by (try simp only [List.map_toArray, List.map_cons, List.map_nil]); first | done | rfl | (simp only [List.length_drop, List.length_take]; rfl)) ?_; (with_reducible refine (class_Cells.calls (wrap64 (a1 + 1)) t195 t196 _ A34.out).mono ?_); rintro e w46 ⟨rfl, hb⟩; refine ⟨_, rfl, ?_⟩; have n0_ := Aside0.mk (below_step (by repeat (first | (with_reducible first | exact HB.out | apply below_alloc | apply pw_below_drewN | apply below_drew1) | exact HB.out)) hb); clear HB; have HB := n0_; clear n0_; (try clear hb); (try clear hb2); (try clear hk); (try clear hi)))
                          go_ret
                          exact ⟨by first | rfl | (simp [errW_none, errW_some] <;> rfl) | (simp [*, errW_none, errW_some] <;> rfl), by repeat (first | (with_reducible first | exact HB.out | apply below_alloc | apply pw_below_drewN | apply below_drew1) | exact HB.out)⟩
                      · replace c35 := Bool.eq_false_iff.mpr c35
                        subst c35
                        have H1 : (some false) = some r := by rw [if_neg (show ¬ (false = true) by decide)] at H; exact H
                        clear H
                        have H := H1
                        clear H1
                        obtain rfl := Option.some.inj H
                        go_wp2_with (first | ((with_reducible refine gate_callee (f := 19) rfl ?_); refine goesL_ (some 103) rfl rfl Try.func19 (by kernel_rfl) rfl #[.int .i64 a1] rfl (by (try simp only [List.map_toArray, List.map_cons, List.map_nil]); first | done | rfl | (simp only [List.length_drop, List.length_take]; rfl)) ?_; (with_reducible refine (class_Cells.calls a1 t193 t194 _ A32.out).mono ?_); rintro e w47 ⟨rfl, hb⟩; refine ⟨_, rfl, ?_⟩; have n0_ := Aside0.mk (below_step (by repeat (first | (with_reducible first | exact HB.out | apply below_alloc | apply pw_below_drewN | apply below_drew1) | exact HB.out)) hb); clear HB; have HB := n0_; clear n0_; (try clear hb); (try clear hb2); (try clear hk); (try clear hi)) | ((with_reducible refine gate_callee (f := 19) rfl ?_); refine goesL_ (some 116) rfl rfl Try.func19 (by kernel_rfl) rfl #[.int .i64 (wrap64 (a1 + 1))] rfl (by (try simp only [List.map_toArray, List.map_cons, List.map_nil]); first | done | rfl | (simp only [List.length_drop, List.length_take]; rfl)) ?_; (with_reducible refine (class_Cells.calls (wrap64 (a1 + 1)) t195 t196 _ A34.out).mono ?_); rintro e w48 ⟨rfl, hb⟩; refine ⟨_, rfl, ?_⟩; have n0_ := Aside0.mk (below_step (by repeat (first | (with_reducible first | exact HB.out | apply below_alloc | apply pw_below_drewN | apply below_drew1) | exact HB.out)) hb); clear HB; have HB := n0_; clear n0_; (try clear hb); (try clear hb2); (try clear hk); (try clear hi)))
                        go_ret
                        exact ⟨by first | rfl | (simp [errW_none, errW_some] <;> rfl) | (simp [*, errW_none, errW_some] <;> rfl), by repeat (first | (with_reducible first | exact HB.out | apply below_alloc | apply pw_below_drewN | apply below_drew1) | exact HB.out)⟩
                    · rw [if_neg c33] at H
                      have c33b0 : (t194 == 0) = false := beq_eq_false_iff_ne.mpr c33
                      have c33b1 : (t194 != 0) = true := bne_iff_ne.mpr c33
                      by_cases c49 : t184 = true
                      · subst c49
                        have H1 : (some (t193 == 0)) = some r := by rw [if_pos rfl] at H; exact H
                        clear H
                        have H := H1
                        clear H1
                        obtain rfl := Option.some.inj H
                        go_wp2_with (first | ((with_reducible refine gate_callee (f := 19) rfl ?_); refine goesL_ (some 103) rfl rfl Try.func19 (by kernel_rfl) rfl #[.int .i64 a1] rfl (by (try simp only [List.map_toArray, List.map_cons, List.map_nil]); first | done | rfl | (simp only [List.length_drop, List.length_take]; rfl)) ?_; (with_reducible refine (class_Cells.calls a1 t193 t194 _ A32.out).mono ?_); rintro e w50 ⟨rfl, hb⟩; refine ⟨_, rfl, ?_⟩; have n0_ := Aside0.mk (below_step (by repeat (first | (with_reducible first | exact HB.out | apply below_alloc | apply pw_below_drewN | apply below_drew1) | exact HB.out)) hb); clear HB; have HB := n0_; clear n0_; (try clear hb); (try clear hb2); (try clear hk); (try clear hi)))
                        go_ret
                        exact ⟨by first | rfl | (simp [errW_none, errW_some] <;> rfl) | (simp [*, errW_none, errW_some] <;> rfl), by repeat (first | (with_reducible first | exact HB.out | apply below_alloc | apply pw_below_drewN | apply below_drew1) | exact HB.out)⟩
                      · replace c49 := Bool.eq_false_iff.mpr c49
                        subst c49
                        have H1 : (some false) = some r := by rw [if_neg (show ¬ (false = true) by decide)] at H; exact H
                        clear H
                        have H := H1
                        clear H1
                        obtain rfl := Option.some.inj H
                        go_wp2_with (first | ((with_reducible refine gate_callee (f := 19) rfl ?_); refine goesL_ (some 103) rfl rfl Try.func19 (by kernel_rfl) rfl #[.int .i64 a1] rfl (by (try simp only [List.map_toArray, List.map_cons, List.map_nil]); first | done | rfl | (simp only [List.length_drop, List.length_take]; rfl)) ?_; (with_reducible refine (class_Cells.calls a1 t193 t194 _ A32.out).mono ?_); rintro e w51 ⟨rfl, hb⟩; refine ⟨_, rfl, ?_⟩; have n0_ := Aside0.mk (below_step (by repeat (first | (with_reducible first | exact HB.out | apply below_alloc | apply pw_below_drewN | apply below_drew1) | exact HB.out)) hb); clear HB; have HB := n0_; clear n0_; (try clear hb); (try clear hb2); (try clear hk); (try clear hi)))
                        go_ret
                        exact ⟨by first | rfl | (simp [errW_none, errW_some] <;> rfl) | (simp [*, errW_none, errW_some] <;> rfl), by repeat (first | (with_reducible first | exact HB.out | apply below_alloc | apply pw_below_drewN | apply below_drew1) | exact HB.out)⟩

/-- THE ONE PURE STATEMENT of joistlaw12_ClassRises: yours. -/
def joistlaw12_ClassRises.Pure : Prop := ∀ (a0 : Int) (a1 : Int), (Lit.int .i64 a0).wf = true → (Lit.int .i64 a1).wf = true → ∃ k, joistlaw12_ClassRises.f k a0 a1 = some true
theorem joistlaw12_ClassRises.walk (P : joistlaw12_ClassRises.Pure) (a0 : Int) (a1 : Int) (w : World) (w0 : (Lit.int .i64 a0).wf = true) (w1 : (Lit.int .i64 a1).wf = true) :
    Calls Try.prog 6 #[.int .i64 a0, .int .i64 a1] w fun e w' => e = .returned (.bool true) ∧ Below w.heap.size w w' := by
  obtain ⟨k, h⟩ := P a0 a1 w0 w1
  refine (joistlaw12_ClassRises.calls k a0 a1 true w h).mono ?_
  rintro e w' ⟨rfl, hd⟩
  exact ⟨rfl, hd⟩

end Go.Proofs.Ytlpkbekpdhaplaa.P
