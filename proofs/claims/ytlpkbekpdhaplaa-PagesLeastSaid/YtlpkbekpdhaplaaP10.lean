-- Printed by wip/tools/pp.py.
import Derived.Test.YtlpkbekpdhaplaaP0
import Derived.Test.YtlpkbekpdhaplaaP3
import Derived.Test.YtlpkbekpdhaplaaP8
import Derived.Test.YtlpkbekpdhaplaaEu
namespace Go.Proofs.Ytlpkbekpdhaplaa.P
open Go.RowKit Go.Proofs.YtlpkbekpdhaplaaW.PrintWords Go.Proofs.YtlpkbekpdhaplaaW.PrintLast Go.Proofs.YtlpkbekpdhaplaaW.PrintMore
attribute [local go_sem] max2_int min2_int max_two min_two max_three min_three max_four min_four   -- for this text's walks alone
set_option linter.unusedVariables false
set_option linter.unusedSimpArgs false

/-! ### joistlaw13_PagesLeast: function 10 -/
mutual
def joistlaw13_PagesLeast.l0 : Nat → List Int → Int → Bool → List (S48) → Int → Bool → Int → Int → Option (Bool)
  | 0, _, _, _, _, _, _, _, _ => none
  | k + 1, x0, x1, x5, x6, x7, x8, x9, x10 => if x10 < (x0.length : Int) then (if 0 ≤ x10 then (if (rd x0 x10) = (-1) then (joistlaw13_PagesLeast.l0 k x0 x1 x5 x6 x7 x8 (wrap64 (x9 + 1)) (wrap64 (x10 + 1))) else (joistlaw13_PagesLeast.l0 k x0 x1 x5 x6 x7 x8 x9 (wrap64 (x10 + 1)))) else (none)) else (joistlaw13_PagesLeast.l1 k x1 x5 x6 x7 x8 x9 0 0)
def joistlaw13_PagesLeast.l1 : Nat → Int → Bool → List (S48) → Int → Bool → Int → Int → Int → Option (Bool)
  | 0, _, _, _, _, _, _, _, _ => none
  | k + 1, x1, x5, x6, x7, x8, x9, x11, x12 => if x12 < (x6.length : Int) then (if 0 ≤ x12 then (if x8 = true then (if ((rd_T48 x6 x12).f0) = x7 then (joistlaw13_PagesLeast.l1 k x1 x5 x6 x7 x8 (wrap64 (x9 - ((rd_T48 x6 x12).f1))) ((rd_T48 x6 x12).f1) (wrap64 (x12 + 1))) else (joistlaw13_PagesLeast.l1 k x1 x5 x6 x7 x8 (wrap64 (x9 - ((rd_T48 x6 x12).f1))) x11 (wrap64 (x12 + 1)))) else (joistlaw13_PagesLeast.l1 k x1 x5 x6 x7 x8 (wrap64 (x9 - ((rd_T48 x6 x12).f1))) x11 (wrap64 (x12 + 1)))) else (none)) else (if x8 = true then (if x11 < x1 then (joistlaw13_PagesLeast.j2 k x1 x5 x6 x7 x8 x11 true) else (if x1 < 1 then (joistlaw13_PagesLeast.j2 k x1 x5 x6 x7 x8 x11 true) else (joistlaw13_PagesLeast.j2 k x1 x5 x6 x7 x8 x11 (x9 != 0)))) else (if x7 = 0 then (joistlaw13_PagesLeast.j2 k x1 x5 x6 x7 x8 x11 (x9 != 0)) else (joistlaw13_PagesLeast.j2 k x1 x5 x6 x7 x8 x11 true)))
def joistlaw13_PagesLeast.j2 : Nat → Int → Bool → List (S48) → Int → Bool → Int → Bool → Option (Bool)
  | 0, _, _, _, _, _, _, _ => none
  | k + 1, x1, x5, x6, x7, x8, x11, x89 => if x89 = true then (some false) else (joistlaw13_PagesLeast.l2 k x1 x5 x6 x7 x8 x11 0)
def joistlaw13_PagesLeast.l2 : Nat → Int → Bool → List (S48) → Int → Bool → Int → Int → Option (Bool)
  | 0, _, _, _, _, _, _, _ => none
  | k + 1, x1, x5, x6, x7, x8, x11, x13 => if x13 < (x6.length : Int) then (if x1 ≥ 1 then (if 0 ≤ x13 then (if ((rd_T48 x6 x13).f1) ≥ x1 then (if x8 = true then (if ((rd_T48 x6 x13).f1) < x11 then (some false) else (if ((rd_T48 x6 x13).f1) = x11 then (if ((rd_T48 x6 x13).f0) < x7 then (some false) else (joistlaw13_PagesLeast.l2 k x1 x5 x6 x7 x8 x11 (wrap64 (x13 + 1)))) else (joistlaw13_PagesLeast.l2 k x1 x5 x6 x7 x8 x11 (wrap64 (x13 + 1))))) else (some false)) else (joistlaw13_PagesLeast.l2 k x1 x5 x6 x7 x8 x11 (wrap64 (x13 + 1)))) else (none)) else (joistlaw13_PagesLeast.l2 k x1 x5 x6 x7 x8 x11 (wrap64 (x13 + 1)))) else (some x5)
end
def joistlaw13_PagesLeast.f (k : Nat) (l0 : List Int) (a1 : Int) : Option (Bool) := (joistlaw13_small.f k).bind fun t203 => (if (l0.length : Int) > 1024 then (some t203) else ((pages_Runs.f l0).bind fun t204 => ((pages_Best.f k l0 a1).bind fun bt207 => (joistlaw13_PagesLeast.l0 k l0 a1 t203 t204 bt207.1 bt207.2 0 0))))
theorem joistlaw13_PagesLeast.mono_l : ∀ k, (∀ y0 y1 y2 y3 y4 y5 y6 y7, LeO (joistlaw13_PagesLeast.l0 k y0 y1 y2 y3 y4 y5 y6 y7) (joistlaw13_PagesLeast.l0 (k + 1) y0 y1 y2 y3 y4 y5 y6 y7)) ∧ (∀ y0 y1 y2 y3 y4 y5 y6 y7, LeO (joistlaw13_PagesLeast.l1 k y0 y1 y2 y3 y4 y5 y6 y7) (joistlaw13_PagesLeast.l1 (k + 1) y0 y1 y2 y3 y4 y5 y6 y7)) ∧ (∀ y0 y1 y2 y3 y4 y5 y6, LeO (joistlaw13_PagesLeast.j2 k y0 y1 y2 y3 y4 y5 y6) (joistlaw13_PagesLeast.j2 (k + 1) y0 y1 y2 y3 y4 y5 y6)) ∧ (∀ y0 y1 y2 y3 y4 y5 y6, LeO (joistlaw13_PagesLeast.l2 k y0 y1 y2 y3 y4 y5 y6) (joistlaw13_PagesLeast.l2 (k + 1) y0 y1 y2 y3 y4 y5 y6))
  | 0 => ⟨fun _ _ _ _ _ _ _ _ r h => by simp [joistlaw13_PagesLeast.l0] at h, fun _ _ _ _ _ _ _ _ r h => by simp [joistlaw13_PagesLeast.l1] at h, fun _ _ _ _ _ _ _ r h => by simp [joistlaw13_PagesLeast.j2] at h, fun _ _ _ _ _ _ _ r h => by simp [joistlaw13_PagesLeast.l2] at h⟩
  | k + 1 => by
    obtain ⟨ih0, ih1, ih2, ih3⟩ := joistlaw13_PagesLeast.mono_l k
    refine ⟨?_, ?_, ?_, ?_⟩
    · intro y0 y1 y2 y3 y4 y5 y6 y7
      unfold joistlaw13_PagesLeast.l0
      repeat' first
      | (with_reducible exact ih0 _ _ _ _ _ _ _ _)
      | (with_reducible exact ih1 _ _ _ _ _ _ _ _)
      | (with_reducible exact ih2 _ _ _ _ _ _ _)
      | (with_reducible exact ih3 _ _ _ _ _ _ _)
      | (with_reducible exact joistlaw13_small.mono _)
      | (with_reducible exact pages_Best.mono _ _ _)
      | (with_reducible exact LeO.refl _)
      | (with_reducible exact LeO.none _)
      | (with_reducible refine LeO.ite ?_ ?_)
      | (with_reducible refine LeO.bind ?_ (fun _ => ?_))
      | exact ih0 _ _ _ _ _ _ _ _
      | exact ih1 _ _ _ _ _ _ _ _
      | exact ih2 _ _ _ _ _ _ _
      | exact ih3 _ _ _ _ _ _ _
      | exact joistlaw13_small.mono _
      | exact pages_Best.mono _ _ _
      | exact LeO.none _
      | refine LeO.ite ?_ ?_
      | refine LeO.bind ?_ (fun _ => ?_)
    · intro y0 y1 y2 y3 y4 y5 y6 y7
      unfold joistlaw13_PagesLeast.l1
      repeat' first
      | (with_reducible exact ih0 _ _ _ _ _ _ _ _)
      | (with_reducible exact ih1 _ _ _ _ _ _ _ _)
      | (with_reducible exact ih2 _ _ _ _ _ _ _)
      | (with_reducible exact ih3 _ _ _ _ _ _ _)
      | (with_reducible exact joistlaw13_small.mono _)
      | (with_reducible exact pages_Best.mono _ _ _)
      | (with_reducible exact LeO.refl _)
      | (with_reducible exact LeO.none _)
      | (with_reducible refine LeO.ite ?_ ?_)
      | (with_reducible refine LeO.bind ?_ (fun _ => ?_))
      | exact ih0 _ _ _ _ _ _ _ _
      | exact ih1 _ _ _ _ _ _ _ _
      | exact ih2 _ _ _ _ _ _ _
      | exact ih3 _ _ _ _ _ _ _
      | exact joistlaw13_small.mono _
      | exact pages_Best.mono _ _ _
      | exact LeO.none _
      | refine LeO.ite ?_ ?_
      | refine LeO.bind ?_ (fun _ => ?_)
    · intro y0 y1 y2 y3 y4 y5 y6
      unfold joistlaw13_PagesLeast.j2
      repeat' first
      | (with_reducible exact ih0 _ _ _ _ _ _ _ _)
      | (with_reducible exact ih1 _ _ _ _ _ _ _ _)
      | (with_reducible exact ih2 _ _ _ _ _ _ _)
      | (with_reducible exact ih3 _ _ _ _ _ _ _)
      | (with_reducible exact joistlaw13_small.mono _)
      | (with_reducible exact pages_Best.mono _ _ _)
      | (with_reducible exact LeO.refl _)
      | (with_reducible exact LeO.none _)
      | (with_reducible refine LeO.ite ?_ ?_)
      | (with_reducible refine LeO.bind ?_ (fun _ => ?_))
      | exact ih0 _ _ _ _ _ _ _ _
      | exact ih1 _ _ _ _ _ _ _ _
      | exact ih2 _ _ _ _ _ _ _
      | exact ih3 _ _ _ _ _ _ _
      | exact joistlaw13_small.mono _
      | exact pages_Best.mono _ _ _
      | exact LeO.none _
      | refine LeO.ite ?_ ?_
      | refine LeO.bind ?_ (fun _ => ?_)
    · intro y0 y1 y2 y3 y4 y5 y6
      unfold joistlaw13_PagesLeast.l2
      repeat' first
      | (with_reducible exact ih0 _ _ _ _ _ _ _ _)
      | (with_reducible exact ih1 _ _ _ _ _ _ _ _)
      | (with_reducible exact ih2 _ _ _ _ _ _ _)
      | (with_reducible exact ih3 _ _ _ _ _ _ _)
      | (with_reducible exact joistlaw13_small.mono _)
      | (with_reducible exact pages_Best.mono _ _ _)
      | (with_reducible exact LeO.refl _)
      | (with_reducible exact LeO.none _)
      | (with_reducible refine LeO.ite ?_ ?_)
      | (with_reducible refine LeO.bind ?_ (fun _ => ?_))
      | exact ih0 _ _ _ _ _ _ _ _
      | exact ih1 _ _ _ _ _ _ _ _
      | exact ih2 _ _ _ _ _ _ _
      | exact ih3 _ _ _ _ _ _ _
      | exact joistlaw13_small.mono _
      | exact pages_Best.mono _ _ _
      | exact LeO.none _
      | refine LeO.ite ?_ ?_
      | refine LeO.bind ?_ (fun _ => ?_)
theorem joistlaw13_PagesLeast.mono : ∀ a0 a1 k, LeO (joistlaw13_PagesLeast.f k a0 a1) (joistlaw13_PagesLeast.f (k + 1) a0 a1) := by
  intro a0 a1 k
  obtain ⟨ih0, ih1, ih2, ih3⟩ := joistlaw13_PagesLeast.mono_l k
  unfold joistlaw13_PagesLeast.f
  repeat' first
      | (with_reducible exact ih0 _ _ _ _ _ _ _ _)
      | (with_reducible exact ih1 _ _ _ _ _ _ _ _)
      | (with_reducible exact ih2 _ _ _ _ _ _ _)
      | (with_reducible exact ih3 _ _ _ _ _ _ _)
      | (with_reducible exact joistlaw13_small.mono _)
      | (with_reducible exact pages_Best.mono _ _ _)
      | (with_reducible exact LeO.refl _)
      | (with_reducible exact LeO.none _)
      | (with_reducible refine LeO.ite ?_ ?_)
      | (with_reducible refine LeO.bind ?_ (fun _ => ?_))
      | exact ih0 _ _ _ _ _ _ _ _
      | exact ih1 _ _ _ _ _ _ _ _
      | exact ih2 _ _ _ _ _ _ _
      | exact ih3 _ _ _ _ _ _ _
      | exact joistlaw13_small.mono _
      | exact pages_Best.mono _ _ _
      | exact LeO.none _
      | refine LeO.ite ?_ ?_
      | refine LeO.bind ?_ (fun _ => ?_)
set_option maxHeartbeats 8000000 in
set_option maxRecDepth 100000 in
theorem joistlaw13_PagesLeast.calls (k : Nat) (A0 : Option Addr) (c0 : Nat) (l0 : List Int) (a1 : Int) (r : Bool) (w : World) (hr0 : Kd.C (Kd.int .i64) w A0 l0.length l0) (hc0 : l0.length ≤ c0) (h : joistlaw13_PagesLeast.f k l0 a1 = some r) :
    Calls Try.prog 10 #[.slice A0 l0.length c0, .int .i64 a1] w fun e w' => e = .returned (.bool r) ∧ Below w.heap.size w w' := by
  have HR0 := Aside0.mk hr0
  have HC0 := Aside0.mk hc0
  clear hr0 hc0
  have HB := Aside0.mk (Below.refl w.heap.size w)
  have H : ((joistlaw13_small.f k).bind fun t203 => (if (l0.length : Int) > 1024 then (some t203) else ((pages_Runs.f l0).bind fun t204 => ((pages_Best.f k l0 a1).bind fun bt207 => (joistlaw13_PagesLeast.l0 k l0 a1 t203 t204 bt207.1 bt207.2 0 0))))) = some r := h
  clear h
  replace H := Option.bind_eq_some_iff.mp H
  obtain ⟨t203, A30, H⟩ := H
  replace H : (if (l0.length : Int) > 1024 then (some t203) else ((pages_Runs.f l0).bind fun t204 => ((pages_Best.f k l0 a1).bind fun bt207 => (joistlaw13_PagesLeast.l0 k l0 a1 t203 t204 bt207.1 bt207.2 0 0)))) = some r := H
  have A3 := Aside0.mk A30
  clear A30
  by_cases c4 : (l0.length : Int) > 1024
  · rw [if_pos c4] at H
    have c4b0 : decide (1024 < (l0.length : Int)) = true := decide_eq_true c4
    have c4b1 : decide (1024 < l0.length) = true := decide_eq_true (by omega)
    clear c4
    obtain rfl := Option.some.inj H
    go_enter Try.func10, Try.ntmps10
    go_wp2_with (first | ((with_reducible refine gate_callee (f := 27) rfl ?_); refine goesL_ (some 14) rfl rfl Try.func27 (by kernel_rfl) rfl #[] rfl (by (try simp only [List.map_toArray, List.map_cons, List.map_nil]); first | done | rfl | (simp only [List.length_drop, List.length_take]; rfl)) ?_; (with_reducible refine (joistlaw13_small.calls k  t203 _ A3.out).mono ?_); rintro e w5 ⟨rfl, hb⟩; refine ⟨_, rfl, ?_⟩; have n0_ := Aside0.mk (below_step (by repeat (first | (with_reducible first | exact HB.out | apply below_alloc | apply pw_below_drewN | apply below_drew1) | exact HB.out)) hb); clear HB; have HB := n0_; clear n0_; (try clear hb); (try clear hb2); (try clear hk); (try clear hi)))
    go_ret
    exact ⟨by first | rfl | (simp [errW_none, errW_some] <;> rfl) | (simp [*, errW_none, errW_some] <;> rfl), by repeat (first | (with_reducible first | exact HB.out | apply below_alloc | apply pw_below_drewN | apply below_drew1) | exact HB.out)⟩
  · rw [if_neg c4] at H
    have c4b0 : decide (1024 < (l0.length : Int)) = false := decide_eq_false c4
    have c4b1 : decide (1024 < l0.length) = false := decide_eq_false (by omega)
    clear c4
    replace H := Option.bind_eq_some_iff.mp H
    obtain ⟨t204, A60, H⟩ := H
    replace H : ((pages_Best.f k l0 a1).bind fun bt207 => (joistlaw13_PagesLeast.l0 k l0 a1 t203 t204 bt207.1 bt207.2 0 0)) = some r := H
    have A6 := Aside0.mk A60
    clear A60
    replace H := Option.bind_eq_some_iff.mp H
    obtain ⟨⟨t207, t208⟩, A70, H⟩ := H
    replace H : (joistlaw13_PagesLeast.l0 k l0 a1 t203 t204 t207 t208 0 0) = some r := H
    have A7 := Aside0.mk A70
    clear A70
    have H' := Aside0.mk H
    clear H
    go_enter Try.func10, Try.ntmps10
    go_wp2_with (first | ((with_reducible refine gate_callee (f := 27) rfl ?_); refine goesL_ (some 14) rfl rfl Try.func27 (by kernel_rfl) rfl #[] rfl (by (try simp only [List.map_toArray, List.map_cons, List.map_nil]); first | done | rfl | (simp only [List.length_drop, List.length_take]; rfl)) ?_; (with_reducible refine (joistlaw13_small.calls k  t203 _ A3.out).mono ?_); rintro e w8 ⟨rfl, hb⟩; refine ⟨_, rfl, ?_⟩; have n0_ := Aside0.mk (below_step (by repeat (first | (with_reducible first | exact HB.out | apply below_alloc | apply pw_below_drewN | apply below_drew1) | exact HB.out)) hb); clear HB; have HB := n0_; clear n0_; (try clear hb); (try clear hb2); (try clear hk); (try clear hi)) | ((with_reducible refine gate_callee (f := 31) rfl ?_); refine goesL_ (some 20) rfl rfl Try.func31 (by kernel_rfl) rfl #[.slice A0 l0.length c0] rfl (by (try simp only [List.map_toArray, List.map_cons, List.map_nil]); first | done | rfl | (simp only [List.length_drop, List.length_take]; rfl)) ?_; (with_reducible refine (pages_Runs.calls _ _ l0 t204 _ ?side1 ?side2 A6.out).mono ?_); (case side1 => repeat (first | exact (Kd.C_below HR0.out HB.out) | (with_reducible refine Kd.C_alloc ?_ _) | (with_reducible refine Kd.C_drewN ?_ _) | (with_reducible refine Kd.C_drew ?_))); (case side2 => exact HC0.out); rintro e w9 ⟨v205, rfl, ho0, hb⟩; refine ⟨_, rfl, ?_⟩; have n0_ := Aside0.mk (Kd.R_lower ho0 (below_size (by repeat (first | (with_reducible first | exact HB.out | apply below_alloc | apply pw_below_drewN | apply below_drew1) | exact HB.out)))); have n1_ := Aside0.mk (below_step (by repeat (first | (with_reducible first | exact HB.out | apply below_alloc | apply pw_below_drewN | apply below_drew1) | exact HB.out)) hb); clear HB; have HO206 := n0_; have HB := n1_; clear n0_ n1_; (try clear hb); (try clear hb2); (try clear hk); (try clear hi); (try clear ho0)) | ((with_reducible refine gate_callee (f := 28) rfl ?_); refine goesL_ (some 24) rfl rfl Try.func28 (by kernel_rfl) rfl #[.slice A0 l0.length c0, .int .i64 a1] rfl (by (try simp only [List.map_toArray, List.map_cons, List.map_nil]); first | done | rfl | (simp only [List.length_drop, List.length_take]; rfl)) ?_; (with_reducible refine (pages_Best.calls k _ _ l0 a1 t207 t208 _ ?side1 ?side2 A7.out).mono ?_); (case side1 => repeat (first | exact (Kd.C_below HR0.out HB.out) | (with_reducible refine Kd.C_alloc ?_ _) | (with_reducible refine Kd.C_drewN ?_ _) | (with_reducible refine Kd.C_drew ?_))); (case side2 => exact HC0.out); rintro e w10 ⟨rfl, hb⟩; refine ⟨_, rfl, ?_⟩; have n0_ := Aside0.mk (Kd.R_below (by (with_reducible repeat (first | apply Kd.R_alloc | apply Kd.R_drewN | apply Kd.R_drew)); exact HO206.out) hb); have n1_ := Aside0.mk (below_step (by repeat (first | (with_reducible first | exact HB.out | apply below_alloc | apply pw_below_drewN | apply below_drew1) | exact HB.out)) hb); clear HO206; clear HB; have HO206 := n0_; have HB := n1_; clear n0_ n1_; (try clear hb); (try clear hb2); (try clear hk); (try clear hi)))
    go_loopg [9, 10] k (fun kq v9 v10 w' => ∃ (x9_1 : Int) (x10_1 : Int), v9 = .int .i64 x9_1 ∧ v10 = .int .i64 x10_1 ∧ Aside0 (joistlaw13_PagesLeast.l0 kq l0 a1 t203 t204 t207 t208 x9_1 x10_1 = some r) ∧ Aside0 (kq ≤ k) ∧ Aside0 (Kd.R k48 48 w' w.heap.size (fun _ => True) v205 t204) ∧ Aside0 (Below w.heap.size w w'))
    case atStart => exact ⟨(0), (0), (by first | rfl | (simp; done) | (simp [*]; done)), (by first | rfl | (simp; done) | (simp [*]; done)), H', ⟨Nat.le_refl _⟩, ⟨by (with_reducible repeat (first | apply Kd.R_alloc | apply Kd.R_drewN | apply Kd.R_drew)); exact HO206.out⟩, ⟨by repeat (first | (with_reducible first | exact HB.out | apply below_alloc | apply pw_below_drewN | apply below_drew1) | exact HB.out)⟩⟩
    case round =>
      clear H'
      try clear c1
      try clear c2
      try clear p2
      try clear c3
      try clear c4
      try clear c4b0
      try clear c4b1
      try clear c10
      obtain ⟨x9_1, x10_1, rfl, rfl, HA, HK1, HO_6, HB⟩ := hrel
      cases gk with
      | zero => exact absurd HA.out (by simp [joistlaw13_PagesLeast.l0])
      | succ k1 =>
        have H := HA.out
        clear HA
        simp only [joistlaw13_PagesLeast.l0] at H
        by_cases c11 : x10_1 < (l0.length : Int)
        · rw [if_pos c11] at H
          have c11b0 : decide (x10_1 < (l0.length : Int)) = true := decide_eq_true c11
          clear c11
          by_cases c12 : 0 ≤ x10_1
          · rw [if_pos c12] at H
            have c12b0 : decide (0 ≤ x10_1) = true := decide_eq_true c12
            clear c12
            by_cases c13 : (rd l0 x10_1) = (-1)
            · rw [if_pos c13] at H
              have c13b0 : ((rd l0 x10_1) == (-1)) = true := beq_iff_eq.mpr c13
              have c13b1 : ((rd l0 x10_1) != (-1)) = false := bne_eq_false_iff_eq.mpr c13
              clear c13
              have H' := Aside0.mk H
              clear H
              have p209 : 0 ≤ (x10_1 : Int) := of_decide_eq_true (by first | (with_reducible assumption) | assumption)
              have q209 : x10_1 < (l0.length : Int) := of_decide_eq_true (by first | (with_reducible assumption) | assumption)
              obtain ⟨ad209, e209, hx209_0⟩ := Kd.at_int HR0.out x10_1 p209 q209
              cases e209
              replace hx209_0 := (HB.out.cell (World.block_lt_of_cell? w _ hx209_0)).trans hx209_0
              replace p209 := eq_true p209
              replace q209 := eq_true q209
              go_wp2
              go_roundg k1
              case measure => have := HK1.out; omega
              case rel => exact ⟨(wrap64 (x9_1 + 1)), (wrap64 (x10_1 + 1)), (by first | rfl | (simp; done) | (simp [*]; done)), (by first | rfl | (simp; done) | (simp [*]; done)), H', ⟨by have := HK1.out; omega⟩, ⟨by (with_reducible repeat (first | apply Kd.R_alloc | apply Kd.R_drewN | apply Kd.R_drew)); exact HO_6.out⟩, ⟨by repeat (first | (with_reducible first | exact HB.out | apply below_alloc | apply pw_below_drewN | apply below_drew1) | exact HB.out)⟩⟩
            · rw [if_neg c13] at H
              have c13b0 : ((rd l0 x10_1) == (-1)) = false := beq_eq_false_iff_ne.mpr c13
              have c13b1 : ((rd l0 x10_1) != (-1)) = true := bne_iff_ne.mpr c13
              have H' := Aside0.mk H
              clear H
              have p209 : 0 ≤ (x10_1 : Int) := of_decide_eq_true (by first | (with_reducible assumption) | assumption)
              have q209 : x10_1 < (l0.length : Int) := of_decide_eq_true (by first | (with_reducible assumption) | assumption)
              obtain ⟨ad209, e209, hx209_0⟩ := Kd.at_int HR0.out x10_1 p209 q209
              cases e209
              replace hx209_0 := (HB.out.cell (World.block_lt_of_cell? w _ hx209_0)).trans hx209_0
              replace p209 := eq_true p209
              replace q209 := eq_true q209
              go_wp2
              go_roundg k1
              case measure => have := HK1.out; omega
              case rel => exact ⟨(x9_1), (wrap64 (x10_1 + 1)), (by first | rfl | (simp; done) | (simp [*]; done)), (by first | rfl | (simp; done) | (simp [*]; done)), H', ⟨by have := HK1.out; omega⟩, ⟨by (with_reducible repeat (first | apply Kd.R_alloc | apply Kd.R_drewN | apply Kd.R_drew)); exact HO_6.out⟩, ⟨by repeat (first | (with_reducible first | exact HB.out | apply below_alloc | apply pw_below_drewN | apply below_drew1) | exact HB.out)⟩⟩
          · rw [if_neg c12] at H
            exact absurd H (by simp)
        · rw [if_neg c11] at H
          have c11b0 : decide (x10_1 < (l0.length : Int)) = false := decide_eq_false c11
          clear c11
          have H' := Aside0.mk H
          clear H
          go_wp2
          go_loopg [9, 11, 12] k1 (fun kq v9 v11 v12 w' => ∃ (x9_2 : Int) (x11_2 : Int) (x12_2 : Int), v9 = .int .i64 x9_2 ∧ v11 = .int .i64 x11_2 ∧ v12 = .int .i64 x12_2 ∧ Aside0 (joistlaw13_PagesLeast.l1 kq a1 t203 t204 t207 t208 x9_2 x11_2 x12_2 = some r) ∧ Aside0 (kq ≤ k1) ∧ Aside0 (Kd.R k48 48 w' w.heap.size (fun _ => True) v205 t204) ∧ Aside0 (Below w.heap.size w w'))
          case atStart => exact ⟨(x9_1), (0), (0), (by first | rfl | (simp; done) | (simp [*]; done)), (by first | rfl | (simp; done) | (simp [*]; done)), (by first | rfl | (simp; done) | (simp [*]; done)), H', ⟨Nat.le_refl _⟩, ⟨by (with_reducible repeat (first | apply Kd.R_alloc | apply Kd.R_drewN | apply Kd.R_drew)); exact HO_6.out⟩, ⟨by repeat (first | (with_reducible first | exact HB.out | apply below_alloc | apply pw_below_drewN | apply below_drew1) | exact HB.out)⟩⟩
          case round =>
            clear H'
            try clear c1
            try clear c2
            try clear p2
            try clear q2
            try clear hx2
            try clear c3
            try clear c4
            try clear c4b0
            try clear c4b1
            try clear p6
            try clear c10
            try clear c11
            try clear c11b0
            try clear c12
            try clear c12b0
            try clear c13
            try clear c13b0
            try clear c13b1
            try clear hx209_0
            try clear p2
            try clear p209
            try clear q209
            obtain ⟨x9_2, x11_2, x12_2, rfl, rfl, rfl, HA, HK2, HO_6, HB⟩ := hrel
            cases gk with
            | zero => exact absurd HA.out (by simp [joistlaw13_PagesLeast.l1])
            | succ k2 =>
              have H := HA.out
              clear HA
              simp only [joistlaw13_PagesLeast.l1] at H
              by_cases c14 : x12_2 < (t204.length : Int)
              · rw [if_pos c14] at H
                have c14b0 : decide (x12_2 < (t204.length : Int)) = true := decide_eq_true c14
                clear c14
                by_cases c15 : 0 ≤ x12_2
                · rw [if_pos c15] at H
                  have c15b0 : decide (0 ≤ x12_2) = true := decide_eq_true c15
                  clear c15
                  by_cases c16 : t208 = true
                  · subst c16
                    have H1 : (if ((rd_T48 t204 x12_2).f0) = t207 then (joistlaw13_PagesLeast.l1 k2 a1 t203 t204 t207 true (wrap64 (x9_2 - ((rd_T48 t204 x12_2).f1))) ((rd_T48 t204 x12_2).f1) (wrap64 (x12_2 + 1))) else (joistlaw13_PagesLeast.l1 k2 a1 t203 t204 t207 true (wrap64 (x9_2 - ((rd_T48 t204 x12_2).f1))) x11_2 (wrap64 (x12_2 + 1)))) = some r := by rw [if_pos rfl] at H; exact H
                    clear H
                    have H := H1
                    clear H1
                    by_cases c17 : ((rd_T48 t204 x12_2).f0) = t207
                    · rw [if_pos c17] at H
                      have c17b0 : (((rd_T48 t204 x12_2).f0) == t207) = true := beq_iff_eq.mpr c17
                      have c17b1 : (((rd_T48 t204 x12_2).f0) != t207) = false := bne_eq_false_iff_eq.mpr c17
                      clear c17
                      have H' := Aside0.mk H
                      clear H
                      obtain ⟨Ao18, co18, eo18⟩ := Kd.R_slice HO_6.out
                      subst eo18
                      have p210 : 0 ≤ (x12_2 : Int) := of_decide_eq_true (by first | (with_reducible assumption) | assumption)
                      have q210 : x12_2 < (t204.length : Int) := of_decide_eq_true (by first | (with_reducible assumption) | assumption)
                      obtain ⟨ad210, e210, hx210_0, hx210_1⟩ := at_T48 (Kd.R_reads' HO_6.out).2.2 x12_2 p210 q210
                      cases e210
                      replace p210 := eq_true p210
                      replace q210 := eq_true q210
                      have p211 : 0 ≤ (x12_2 : Int) := of_decide_eq_true (by first | (with_reducible assumption) | assumption)
                      have q211 : x12_2 < (t204.length : Int) := of_decide_eq_true (by first | (with_reducible assumption) | assumption)
                      obtain ⟨ad211, e211, hx211_0, hx211_1⟩ := at_T48 (Kd.R_reads' HO_6.out).2.2 x12_2 p211 q211
                      obtain rfl : ad210 = ad211 := (by injection e211)
                      replace p211 := eq_true p211
                      replace q211 := eq_true q211
                      have p212 : 0 ≤ (x12_2 : Int) := of_decide_eq_true (by first | (with_reducible assumption) | assumption)
                      have q212 : x12_2 < (t204.length : Int) := of_decide_eq_true (by first | (with_reducible assumption) | assumption)
                      obtain ⟨ad212, e212, hx212_0, hx212_1⟩ := at_T48 (Kd.R_reads' HO_6.out).2.2 x12_2 p212 q212
                      obtain rfl : ad210 = ad212 := (by injection e212)
                      replace p212 := eq_true p212
                      replace q212 := eq_true q212
                      go_wp2
                      go_roundg k2
                      case measure => have := HK1.out; have := HK2.out; omega
                      case rel => exact ⟨(wrap64 (x9_2 - ((rd_T48 t204 x12_2).f1))), ((rd_T48 t204 x12_2).f1), (wrap64 (x12_2 + 1)), (by first | rfl | (simp; done) | (simp [*]; done)), (by first | rfl | (simp; done) | (simp [*]; done)), (by first | rfl | (simp; done) | (simp [*]; done)), H', ⟨by have := HK1.out; have := HK2.out; omega⟩, ⟨by (with_reducible repeat (first | apply Kd.R_alloc | apply Kd.R_drewN | apply Kd.R_drew)); exact HO_6.out⟩, ⟨by repeat (first | (with_reducible first | exact HB.out | apply below_alloc | apply pw_below_drewN | apply below_drew1) | exact HB.out)⟩⟩
                    · rw [if_neg c17] at H
                      have c17b0 : (((rd_T48 t204 x12_2).f0) == t207) = false := beq_eq_false_iff_ne.mpr c17
                      have c17b1 : (((rd_T48 t204 x12_2).f0) != t207) = true := bne_iff_ne.mpr c17
                      have H' := Aside0.mk H
                      clear H
                      obtain ⟨Ao19, co19, eo19⟩ := Kd.R_slice HO_6.out
                      subst eo19
                      have p210 : 0 ≤ (x12_2 : Int) := of_decide_eq_true (by first | (with_reducible assumption) | assumption)
                      have q210 : x12_2 < (t204.length : Int) := of_decide_eq_true (by first | (with_reducible assumption) | assumption)
                      obtain ⟨ad210, e210, hx210_0, hx210_1⟩ := at_T48 (Kd.R_reads' HO_6.out).2.2 x12_2 p210 q210
                      cases e210
                      replace p210 := eq_true p210
                      replace q210 := eq_true q210
                      have p211 : 0 ≤ (x12_2 : Int) := of_decide_eq_true (by first | (with_reducible assumption) | assumption)
                      have q211 : x12_2 < (t204.length : Int) := of_decide_eq_true (by first | (with_reducible assumption) | assumption)
                      obtain ⟨ad211, e211, hx211_0, hx211_1⟩ := at_T48 (Kd.R_reads' HO_6.out).2.2 x12_2 p211 q211
                      obtain rfl : ad210 = ad211 := (by injection e211)
                      replace p211 := eq_true p211
                      replace q211 := eq_true q211
                      go_wp2
                      go_roundg k2
                      case measure => have := HK1.out; have := HK2.out; omega
                      case rel => exact ⟨(wrap64 (x9_2 - ((rd_T48 t204 x12_2).f1))), (x11_2), (wrap64 (x12_2 + 1)), (by first | rfl | (simp; done) | (simp [*]; done)), (by first | rfl | (simp; done) | (simp [*]; done)), (by first | rfl | (simp; done) | (simp [*]; done)), H', ⟨by have := HK1.out; have := HK2.out; omega⟩, ⟨by (with_reducible repeat (first | apply Kd.R_alloc | apply Kd.R_drewN | apply Kd.R_drew)); exact HO_6.out⟩, ⟨by repeat (first | (with_reducible first | exact HB.out | apply below_alloc | apply pw_below_drewN | apply below_drew1) | exact HB.out)⟩⟩
                  · replace c16 := Bool.eq_false_iff.mpr c16
                    subst c16
                    have H1 : (joistlaw13_PagesLeast.l1 k2 a1 t203 t204 t207 false (wrap64 (x9_2 - ((rd_T48 t204 x12_2).f1))) x11_2 (wrap64 (x12_2 + 1))) = some r := by rw [if_neg (show ¬ (false = true) by decide)] at H; exact H
                    clear H
                    have H := H1
                    clear H1
                    have H' := Aside0.mk H
                    clear H
                    obtain ⟨Ao20, co20, eo20⟩ := Kd.R_slice HO_6.out
                    subst eo20
                    have p210 : 0 ≤ (x12_2 : Int) := of_decide_eq_true (by first | (with_reducible assumption) | assumption)
                    have q210 : x12_2 < (t204.length : Int) := of_decide_eq_true (by first | (with_reducible assumption) | assumption)
                    obtain ⟨ad210, e210, hx210_0, hx210_1⟩ := at_T48 (Kd.R_reads' HO_6.out).2.2 x12_2 p210 q210
                    cases e210
                    replace p210 := eq_true p210
                    replace q210 := eq_true q210
                    go_wp2
                    go_roundg k2
                    case measure => have := HK1.out; have := HK2.out; omega
                    case rel => exact ⟨(wrap64 (x9_2 - ((rd_T48 t204 x12_2).f1))), (x11_2), (wrap64 (x12_2 + 1)), (by first | rfl | (simp; done) | (simp [*]; done)), (by first | rfl | (simp; done) | (simp [*]; done)), (by first | rfl | (simp; done) | (simp [*]; done)), H', ⟨by have := HK1.out; have := HK2.out; omega⟩, ⟨by (with_reducible repeat (first | apply Kd.R_alloc | apply Kd.R_drewN | apply Kd.R_drew)); exact HO_6.out⟩, ⟨by repeat (first | (with_reducible first | exact HB.out | apply below_alloc | apply pw_below_drewN | apply below_drew1) | exact HB.out)⟩⟩
                · rw [if_neg c15] at H
                  exact absurd H (by simp)
              · rw [if_neg c14] at H
                have c14b0 : decide (x12_2 < (t204.length : Int)) = false := decide_eq_false c14
                clear c14
                have HC21 := Aside0.mk H
                clear H
                obtain ⟨Ao22, co22, eo22⟩ := Kd.R_slice HO_6.out
                subst eo22
                go_upto_region 19 with (fail)
                go_cut [89] (fun v89 wc => ∃ (kq : Nat) (x89_20 : Bool), v89 = .bool x89_20 ∧ Aside0 (joistlaw13_PagesLeast.j2 kq a1 t203 t204 t207 t208 x11_2 x89_20 = some r) ∧ Aside0 (kq ≤ k2) ∧ Aside0 (Kd.R k48 48 wc w.heap.size (fun _ => True) (.slice Ao22 t204.length co22) t204) ∧ Aside0 (Below w.heap.size w wc))
                case first =>
                  have H := HC21.out
                  clear HC21
                  by_cases c23 : t208 = true
                  · subst c23
                    have H1 : (if x11_2 < a1 then (joistlaw13_PagesLeast.j2 k2 a1 t203 t204 t207 true x11_2 true) else (if a1 < 1 then (joistlaw13_PagesLeast.j2 k2 a1 t203 t204 t207 true x11_2 true) else (joistlaw13_PagesLeast.j2 k2 a1 t203 t204 t207 true x11_2 (x9_2 != 0)))) = some r := by rw [if_pos rfl] at H; exact H
                    clear H
                    have H := H1
                    clear H1
                    by_cases c24 : x11_2 < a1
                    · rw [if_pos c24] at H
                      have c24b0 : decide (x11_2 < a1) = true := decide_eq_true c24
                      clear c24
                      (first | rw [c24b0] | (simp only [i64_w, i32_w]; rw [c24b0]) | skip)
                      have H' := Aside0.mk H
                      clear H
                      go_wp2
                      go_meet
                      case rel => exact ⟨_, (true), (by first | rfl | (simp; done) | (simp [*]; done)), H', ⟨by have := HK1.out; have := HK2.out; first | omega | exact Nat.le_refl _⟩, ⟨by (with_reducible repeat (first | apply Kd.R_alloc | apply Kd.R_drewN | apply Kd.R_drew)); exact HO_6.out⟩, ⟨by repeat (first | (with_reducible first | exact HB.out | apply below_alloc | apply pw_below_drewN | apply below_drew1) | exact HB.out)⟩⟩
                    · rw [if_neg c24] at H
                      have c24b0 : decide (x11_2 < a1) = false := decide_eq_false c24
                      clear c24
                      (first | rw [c24b0] | (simp only [i64_w, i32_w]; rw [c24b0]) | skip)
                      by_cases c25 : a1 < 1
                      · rw [if_pos c25] at H
                        have c25b0 : decide (a1 < 1) = true := decide_eq_true c25
                        clear c25
                        have H' := Aside0.mk H
                        clear H
                        go_wp2
                        go_meet
                        case rel => exact ⟨_, (true), (by first | rfl | (simp; done) | (simp [*]; done)), H', ⟨by have := HK1.out; have := HK2.out; first | omega | exact Nat.le_refl _⟩, ⟨by (with_reducible repeat (first | apply Kd.R_alloc | apply Kd.R_drewN | apply Kd.R_drew)); exact HO_6.out⟩, ⟨by repeat (first | (with_reducible first | exact HB.out | apply below_alloc | apply pw_below_drewN | apply below_drew1) | exact HB.out)⟩⟩
                      · rw [if_neg c25] at H
                        have c25b0 : decide (a1 < 1) = false := decide_eq_false c25
                        clear c25
                        have H' := Aside0.mk H
                        clear H
                        go_wp2
                        go_meet
                        case rel => exact ⟨_, ((x9_2 != 0)), (by first | rfl | (simp; done) | (simp [*]; done)), H', ⟨by have := HK1.out; have := HK2.out; first | omega | exact Nat.le_refl _⟩, ⟨by (with_reducible repeat (first | apply Kd.R_alloc | apply Kd.R_drewN | apply Kd.R_drew)); exact HO_6.out⟩, ⟨by repeat (first | (with_reducible first | exact HB.out | apply below_alloc | apply pw_below_drewN | apply below_drew1) | exact HB.out)⟩⟩
                  · replace c23 := Bool.eq_false_iff.mpr c23
                    subst c23
                    have H1 : (if t207 = 0 then (joistlaw13_PagesLeast.j2 k2 a1 t203 t204 t207 false x11_2 (x9_2 != 0)) else (joistlaw13_PagesLeast.j2 k2 a1 t203 t204 t207 false x11_2 true)) = some r := by rw [if_neg (show ¬ (false = true) by decide)] at H; exact H
                    clear H
                    have H := H1
                    clear H1
                    by_cases c26 : t207 = 0
                    · rw [if_pos c26] at H
                      have c26b0 : (t207 == 0) = true := beq_iff_eq.mpr c26
                      have c26b1 : (t207 != 0) = false := bne_eq_false_iff_eq.mpr c26
                      clear c26
                      have H' := Aside0.mk H
                      clear H
                      go_wp2
                      go_meet
                      case rel => exact ⟨_, ((x9_2 != 0)), (by first | rfl | (simp; done) | (simp [*]; done)), H', ⟨by have := HK1.out; have := HK2.out; first | omega | exact Nat.le_refl _⟩, ⟨by (with_reducible repeat (first | apply Kd.R_alloc | apply Kd.R_drewN | apply Kd.R_drew)); exact HO_6.out⟩, ⟨by repeat (first | (with_reducible first | exact HB.out | apply below_alloc | apply pw_below_drewN | apply below_drew1) | exact HB.out)⟩⟩
                    · rw [if_neg c26] at H
                      have c26b0 : (t207 == 0) = false := beq_eq_false_iff_ne.mpr c26
                      have c26b1 : (t207 != 0) = true := bne_iff_ne.mpr c26
                      have H' := Aside0.mk H
                      clear H
                      go_wp2
                      go_meet
                      case rel => exact ⟨_, (true), (by first | rfl | (simp; done) | (simp [*]; done)), H', ⟨by have := HK1.out; have := HK2.out; first | omega | exact Nat.le_refl _⟩, ⟨by (with_reducible repeat (first | apply Kd.R_alloc | apply Kd.R_drewN | apply Kd.R_drew)); exact HO_6.out⟩, ⟨by repeat (first | (with_reducible first | exact HB.out | apply below_alloc | apply pw_below_drewN | apply below_drew1) | exact HB.out)⟩⟩
                case rest =>
                  clear HC21
                  try clear c1
                  try clear c2
                  try clear p2
                  try clear q2
                  try clear hx2
                  try clear c3
                  try clear c4
                  try clear c4b0
                  try clear c4b1
                  try clear p6
                  try clear c10
                  try clear c11
                  try clear c11b0
                  try clear c12
                  try clear c12b0
                  try clear c13
                  try clear c13b0
                  try clear c13b1
                  try clear c14
                  try clear c14b0
                  try clear c15
                  try clear c15b0
                  try clear c16
                  try clear c17
                  try clear c17b0
                  try clear c17b1
                  try clear p20
                  try clear q20
                  try clear hx20
                  try clear p21
                  try clear q21
                  try clear hx21
                  try clear c23
                  try clear c24
                  try clear c24b0
                  try clear c25
                  try clear c25b0
                  try clear c26
                  try clear c26b0
                  try clear c26b1
                  try clear hx209_0
                  try clear hx210_0
                  try clear hx210_1
                  try clear hx211_0
                  try clear hx211_1
                  try clear hx212_0
                  try clear hx212_1
                  try clear p2
                  try clear p209
                  try clear p210
                  try clear p211
                  try clear p212
                  try clear p6
                  try clear q2
                  try clear q209
                  try clear q210
                  try clear q211
                  try clear q212
                  obtain ⟨kq, x89_20, rfl, HA, HJ20, HO_6, HB⟩ := hcut
                  cases kq with
                  | zero => exact absurd HA.out (by simp [joistlaw13_PagesLeast.j2])
                  | succ kj20 =>
                    have H := HA.out
                    clear HA
                    simp only [joistlaw13_PagesLeast.j2] at H
                    by_cases c27 : x89_20 = true
                    · subst c27
                      have H1 : (some false) = some r := by rw [if_pos rfl] at H; exact H
                      clear H
                      have H := H1
                      clear H1
                      obtain rfl := Option.some.inj H
                      go_wp2
                      go_ret
                      exact ⟨by first | rfl | (simp [errW_none, errW_some] <;> rfl) | (simp [*, errW_none, errW_some] <;> rfl), by repeat (first | (with_reducible first | exact HB.out | apply below_alloc | apply pw_below_drewN | apply below_drew1) | exact HB.out)⟩
                    · replace c27 := Bool.eq_false_iff.mpr c27
                      subst c27
                      have H1 : (joistlaw13_PagesLeast.l2 kj20 a1 t203 t204 t207 t208 x11_2 0) = some r := by rw [if_neg (show ¬ (false = true) by decide)] at H; exact H
                      clear H
                      have H := H1
                      clear H1
                      have H' := Aside0.mk H
                      clear H
                      go_wp2
                      go_loopg [13] kj20 (fun kq v13 w' => ∃ (x13_4 : Int), v13 = .int .i64 x13_4 ∧ Aside0 (joistlaw13_PagesLeast.l2 kq a1 t203 t204 t207 t208 x11_2 x13_4 = some r) ∧ Aside0 (kq ≤ kj20) ∧ Aside0 (Kd.R k48 48 w' w.heap.size (fun _ => True) (.slice Ao22 t204.length co22) t204) ∧ Aside0 (Below w.heap.size w w'))
                      case atStart => exact ⟨(0), (by first | rfl | (simp; done) | (simp [*]; done)), H', ⟨Nat.le_refl _⟩, ⟨by (with_reducible repeat (first | apply Kd.R_alloc | apply Kd.R_drewN | apply Kd.R_drew)); exact HO_6.out⟩, ⟨by repeat (first | (with_reducible first | exact HB.out | apply below_alloc | apply pw_below_drewN | apply below_drew1) | exact HB.out)⟩⟩
                      case round =>
                        clear H'
                        try clear c1
                        try clear c2
                        try clear p2
                        try clear q2
                        try clear hx2
                        try clear c3
                        try clear c4
                        try clear c4b0
                        try clear c4b1
                        try clear p6
                        try clear c10
                        try clear c11
                        try clear c11b0
                        try clear c12
                        try clear c12b0
                        try clear c13
                        try clear c13b0
                        try clear c13b1
                        try clear c14
                        try clear c14b0
                        try clear c15
                        try clear c15b0
                        try clear c16
                        try clear c17
                        try clear c17b0
                        try clear c17b1
                        try clear p20
                        try clear q20
                        try clear hx20
                        try clear p21
                        try clear q21
                        try clear hx21
                        try clear c23
                        try clear c24
                        try clear c24b0
                        try clear c25
                        try clear c25b0
                        try clear c26
                        try clear c26b0
                        try clear c26b1
                        try clear c27
                        try clear hx209_0
                        try clear hx210_0
                        try clear hx210_1
                        try clear hx211_0
                        try clear hx211_1
                        try clear hx212_0
                        try clear hx212_1
                        try clear p2
                        try clear p20
                        try clear p209
                        try clear p21
                        try clear p210
                        try clear p211
                        try clear p212
                        try clear p6
                        try clear q2
                        try clear q20
                        try clear q209
                        try clear q21
                        try clear q210
                        try clear q211
                        try clear q212
                        obtain ⟨x13_4, rfl, HA, HK4, HO_6, HB⟩ := hrel
                        cases gk with
                        | zero => exact absurd HA.out (by simp [joistlaw13_PagesLeast.l2])
                        | succ k4 =>
                          have H := HA.out
                          clear HA
                          simp only [joistlaw13_PagesLeast.l2] at H
                          by_cases c28 : x13_4 < (t204.length : Int)
                          · rw [if_pos c28] at H
                            have c28b0 : decide (x13_4 < (t204.length : Int)) = true := decide_eq_true c28
                            clear c28
                            by_cases c29 : a1 ≥ 1
                            · rw [if_pos c29] at H
                              have c29b0 : decide (1 ≤ a1) = true := decide_eq_true c29
                              clear c29
                              by_cases c30 : 0 ≤ x13_4
                              · rw [if_pos c30] at H
                                have c30b0 : decide (0 ≤ x13_4) = true := decide_eq_true c30
                                clear c30
                                by_cases c31 : ((rd_T48 t204 x13_4).f1) ≥ a1
                                · rw [if_pos c31] at H
                                  have c31b0 : decide (a1 ≤ ((rd_T48 t204 x13_4).f1)) = true := decide_eq_true c31
                                  clear c31
                                  by_cases c32 : t208 = true
                                  · subst c32
                                    have H1 : (if ((rd_T48 t204 x13_4).f1) < x11_2 then (some false) else (if ((rd_T48 t204 x13_4).f1) = x11_2 then (if ((rd_T48 t204 x13_4).f0) < t207 then (some false) else (joistlaw13_PagesLeast.l2 k4 a1 t203 t204 t207 true x11_2 (wrap64 (x13_4 + 1)))) else (joistlaw13_PagesLeast.l2 k4 a1 t203 t204 t207 true x11_2 (wrap64 (x13_4 + 1))))) = some r := by rw [if_pos rfl] at H; exact H
                                    clear H
                                    have H := H1
                                    clear H1
                                    by_cases c33 : ((rd_T48 t204 x13_4).f1) < x11_2
                                    · rw [if_pos c33] at H
                                      have c33b0 : decide (((rd_T48 t204 x13_4).f1) < x11_2) = true := decide_eq_true c33
                                      clear c33
                                      obtain rfl := Option.some.inj H
                                      have p213 : 0 ≤ (x13_4 : Int) := of_decide_eq_true (by first | (with_reducible assumption) | assumption)
                                      have q213 : x13_4 < (t204.length : Int) := of_decide_eq_true (by first | (with_reducible assumption) | assumption)
                                      obtain ⟨ad213, e213, hx213_0, hx213_1⟩ := at_T48 (Kd.R_reads' HO_6.out).2.2 x13_4 p213 q213
                                      cases e213
                                      replace p213 := eq_true p213
                                      replace q213 := eq_true q213
                                      have p214 : 0 ≤ (x13_4 : Int) := of_decide_eq_true (by first | (with_reducible assumption) | assumption)
                                      have q214 : x13_4 < (t204.length : Int) := of_decide_eq_true (by first | (with_reducible assumption) | assumption)
                                      obtain ⟨ad214, e214, hx214_0, hx214_1⟩ := at_T48 (Kd.R_reads' HO_6.out).2.2 x13_4 p214 q214
                                      obtain rfl : ad213 = ad214 := (by injection e214)
                                      replace p214 := eq_true p214
                                      replace q214 := eq_true q214
                                      go_wp2
                                      go_ret
                                      exact ⟨by first | rfl | (simp [errW_none, errW_some] <;> rfl) | (simp [*, errW_none, errW_some] <;> rfl), by repeat (first | (with_reducible first | exact HB.out | apply below_alloc | apply pw_below_drewN | apply below_drew1) | exact HB.out)⟩
                                    · rw [if_neg c33] at H
                                      have c33b0 : decide (((rd_T48 t204 x13_4).f1) < x11_2) = false := decide_eq_false c33
                                      clear c33
                                      by_cases c34 : ((rd_T48 t204 x13_4).f1) = x11_2
                                      · rw [if_pos c34] at H
                                        have c34b0 : (((rd_T48 t204 x13_4).f1) == x11_2) = true := beq_iff_eq.mpr c34
                                        have c34b1 : (((rd_T48 t204 x13_4).f1) != x11_2) = false := bne_eq_false_iff_eq.mpr c34
                                        clear c34
                                        by_cases c35 : ((rd_T48 t204 x13_4).f0) < t207
                                        · rw [if_pos c35] at H
                                          have c35b0 : decide (((rd_T48 t204 x13_4).f0) < t207) = true := decide_eq_true c35
                                          clear c35
                                          obtain rfl := Option.some.inj H
                                          have p213 : 0 ≤ (x13_4 : Int) := of_decide_eq_true (by first | (with_reducible assumption) | assumption)
                                          have q213 : x13_4 < (t204.length : Int) := of_decide_eq_true (by first | (with_reducible assumption) | assumption)
                                          obtain ⟨ad213, e213, hx213_0, hx213_1⟩ := at_T48 (Kd.R_reads' HO_6.out).2.2 x13_4 p213 q213
                                          cases e213
                                          replace p213 := eq_true p213
                                          replace q213 := eq_true q213
                                          have p214 : 0 ≤ (x13_4 : Int) := of_decide_eq_true (by first | (with_reducible assumption) | assumption)
                                          have q214 : x13_4 < (t204.length : Int) := of_decide_eq_true (by first | (with_reducible assumption) | assumption)
                                          obtain ⟨ad214, e214, hx214_0, hx214_1⟩ := at_T48 (Kd.R_reads' HO_6.out).2.2 x13_4 p214 q214
                                          obtain rfl : ad213 = ad214 := (by injection e214)
                                          replace p214 := eq_true p214
                                          replace q214 := eq_true q214
                                          have p215 : 0 ≤ (x13_4 : Int) := of_decide_eq_true (by first | (with_reducible assumption) | assumption)
                                          have q215 : x13_4 < (t204.length : Int) := of_decide_eq_true (by first | (with_reducible assumption) | assumption)
                                          obtain ⟨ad215, e215, hx215_0, hx215_1⟩ := at_T48 (Kd.R_reads' HO_6.out).2.2 x13_4 p215 q215
                                          obtain rfl : ad213 = ad215 := (by injection e215)
                                          replace p215 := eq_true p215
                                          replace q215 := eq_true q215
                                          have p216 : 0 ≤ (x13_4 : Int) := of_decide_eq_true (by first | (with_reducible assumption) | assumption)
                                          have q216 : x13_4 < (t204.length : Int) := of_decide_eq_true (by first | (with_reducible assumption) | assumption)
                                          obtain ⟨ad216, e216, hx216_0, hx216_1⟩ := at_T48 (Kd.R_reads' HO_6.out).2.2 x13_4 p216 q216
                                          obtain rfl : ad213 = ad216 := (by injection e216)
                                          replace p216 := eq_true p216
                                          replace q216 := eq_true q216
                                          go_wp2
                                          go_ret
                                          exact ⟨by first | rfl | (simp [errW_none, errW_some] <;> rfl) | (simp [*, errW_none, errW_some] <;> rfl), by repeat (first | (with_reducible first | exact HB.out | apply below_alloc | apply pw_below_drewN | apply below_drew1) | exact HB.out)⟩
                                        · rw [if_neg c35] at H
                                          have c35b0 : decide (((rd_T48 t204 x13_4).f0) < t207) = false := decide_eq_false c35
                                          clear c35
                                          have H' := Aside0.mk H
                                          clear H
                                          have p213 : 0 ≤ (x13_4 : Int) := of_decide_eq_true (by first | (with_reducible assumption) | assumption)
                                          have q213 : x13_4 < (t204.length : Int) := of_decide_eq_true (by first | (with_reducible assumption) | assumption)
                                          obtain ⟨ad213, e213, hx213_0, hx213_1⟩ := at_T48 (Kd.R_reads' HO_6.out).2.2 x13_4 p213 q213
                                          cases e213
                                          replace p213 := eq_true p213
                                          replace q213 := eq_true q213
                                          have p214 : 0 ≤ (x13_4 : Int) := of_decide_eq_true (by first | (with_reducible assumption) | assumption)
                                          have q214 : x13_4 < (t204.length : Int) := of_decide_eq_true (by first | (with_reducible assumption) | assumption)
                                          obtain ⟨ad214, e214, hx214_0, hx214_1⟩ := at_T48 (Kd.R_reads' HO_6.out).2.2 x13_4 p214 q214
                                          obtain rfl : ad213 = ad214 := (by injection e214)
                                          replace p214 := eq_true p214
                                          replace q214 := eq_true q214
                                          have p215 : 0 ≤ (x13_4 : Int) := of_decide_eq_true (by first | (with_reducible assumption) | assumption)
                                          have q215 : x13_4 < (t204.length : Int) := of_decide_eq_true (by first | (with_reducible assumption) | assumption)
                                          obtain ⟨ad215, e215, hx215_0, hx215_1⟩ := at_T48 (Kd.R_reads' HO_6.out).2.2 x13_4 p215 q215
                                          obtain rfl : ad213 = ad215 := (by injection e215)
                                          replace p215 := eq_true p215
                                          replace q215 := eq_true q215
                                          have p216 : 0 ≤ (x13_4 : Int) := of_decide_eq_true (by first | (with_reducible assumption) | assumption)
                                          have q216 : x13_4 < (t204.length : Int) := of_decide_eq_true (by first | (with_reducible assumption) | assumption)
                                          obtain ⟨ad216, e216, hx216_0, hx216_1⟩ := at_T48 (Kd.R_reads' HO_6.out).2.2 x13_4 p216 q216
                                          obtain rfl : ad213 = ad216 := (by injection e216)
                                          replace p216 := eq_true p216
                                          replace q216 := eq_true q216
                                          go_wp2
                                          go_roundg k4
                                          case measure => have := HK1.out; have := HK2.out; have := HJ20.out; have := HK4.out; omega
                                          case rel => exact ⟨(wrap64 (x13_4 + 1)), (by first | rfl | (simp; done) | (simp [*]; done)), H', ⟨by have := HK1.out; have := HK2.out; have := HJ20.out; have := HK4.out; omega⟩, ⟨by (with_reducible repeat (first | apply Kd.R_alloc | apply Kd.R_drewN | apply Kd.R_drew)); exact HO_6.out⟩, ⟨by repeat (first | (with_reducible first | exact HB.out | apply below_alloc | apply pw_below_drewN | apply below_drew1) | exact HB.out)⟩⟩
                                      · rw [if_neg c34] at H
                                        have c34b0 : (((rd_T48 t204 x13_4).f1) == x11_2) = false := beq_eq_false_iff_ne.mpr c34
                                        have c34b1 : (((rd_T48 t204 x13_4).f1) != x11_2) = true := bne_iff_ne.mpr c34
                                        have H' := Aside0.mk H
                                        clear H
                                        have p213 : 0 ≤ (x13_4 : Int) := of_decide_eq_true (by first | (with_reducible assumption) | assumption)
                                        have q213 : x13_4 < (t204.length : Int) := of_decide_eq_true (by first | (with_reducible assumption) | assumption)
                                        obtain ⟨ad213, e213, hx213_0, hx213_1⟩ := at_T48 (Kd.R_reads' HO_6.out).2.2 x13_4 p213 q213
                                        cases e213
                                        replace p213 := eq_true p213
                                        replace q213 := eq_true q213
                                        have p214 : 0 ≤ (x13_4 : Int) := of_decide_eq_true (by first | (with_reducible assumption) | assumption)
                                        have q214 : x13_4 < (t204.length : Int) := of_decide_eq_true (by first | (with_reducible assumption) | assumption)
                                        obtain ⟨ad214, e214, hx214_0, hx214_1⟩ := at_T48 (Kd.R_reads' HO_6.out).2.2 x13_4 p214 q214
                                        obtain rfl : ad213 = ad214 := (by injection e214)
                                        replace p214 := eq_true p214
                                        replace q214 := eq_true q214
                                        have p215 : 0 ≤ (x13_4 : Int) := of_decide_eq_true (by first | (with_reducible assumption) | assumption)
                                        have q215 : x13_4 < (t204.length : Int) := of_decide_eq_true (by first | (with_reducible assumption) | assumption)
                                        obtain ⟨ad215, e215, hx215_0, hx215_1⟩ := at_T48 (Kd.R_reads' HO_6.out).2.2 x13_4 p215 q215
                                        obtain rfl : ad213 = ad215 := (by injection e215)
                                        replace p215 := eq_true p215
                                        replace q215 := eq_true q215
                                        go_wp2
                                        go_roundg k4
                                        case measure => have := HK1.out; have := HK2.out; have := HJ20.out; have := HK4.out; omega
                                        case rel => exact ⟨(wrap64 (x13_4 + 1)), (by first | rfl | (simp; done) | (simp [*]; done)), H', ⟨by have := HK1.out; have := HK2.out; have := HJ20.out; have := HK4.out; omega⟩, ⟨by (with_reducible repeat (first | apply Kd.R_alloc | apply Kd.R_drewN | apply Kd.R_drew)); exact HO_6.out⟩, ⟨by repeat (first | (with_reducible first | exact HB.out | apply below_alloc | apply pw_below_drewN | apply below_drew1) | exact HB.out)⟩⟩
                                  · replace c32 := Bool.eq_false_iff.mpr c32
                                    subst c32
                                    have H1 : (some false) = some r := by rw [if_neg (show ¬ (false = true) by decide)] at H; exact H
                                    clear H
                                    have H := H1
                                    clear H1
                                    obtain rfl := Option.some.inj H
                                    have p213 : 0 ≤ (x13_4 : Int) := of_decide_eq_true (by first | (with_reducible assumption) | assumption)
                                    have q213 : x13_4 < (t204.length : Int) := of_decide_eq_true (by first | (with_reducible assumption) | assumption)
                                    obtain ⟨ad213, e213, hx213_0, hx213_1⟩ := at_T48 (Kd.R_reads' HO_6.out).2.2 x13_4 p213 q213
                                    cases e213
                                    replace p213 := eq_true p213
                                    replace q213 := eq_true q213
                                    go_wp2
                                    go_ret
                                    exact ⟨by first | rfl | (simp [errW_none, errW_some] <;> rfl) | (simp [*, errW_none, errW_some] <;> rfl), by repeat (first | (with_reducible first | exact HB.out | apply below_alloc | apply pw_below_drewN | apply below_drew1) | exact HB.out)⟩
                                · rw [if_neg c31] at H
                                  have c31b0 : decide (a1 ≤ ((rd_T48 t204 x13_4).f1)) = false := decide_eq_false c31
                                  clear c31
                                  have H' := Aside0.mk H
                                  clear H
                                  have p213 : 0 ≤ (x13_4 : Int) := of_decide_eq_true (by first | (with_reducible assumption) | assumption)
                                  have q213 : x13_4 < (t204.length : Int) := of_decide_eq_true (by first | (with_reducible assumption) | assumption)
                                  obtain ⟨ad213, e213, hx213_0, hx213_1⟩ := at_T48 (Kd.R_reads' HO_6.out).2.2 x13_4 p213 q213
                                  cases e213
                                  replace p213 := eq_true p213
                                  replace q213 := eq_true q213
                                  go_wp2
                                  go_roundg k4
                                  case measure => have := HK1.out; have := HK2.out; have := HJ20.out; have := HK4.out; omega
                                  case rel => exact ⟨(wrap64 (x13_4 + 1)), (by first | rfl | (simp; done) | (simp [*]; done)), H', ⟨by have := HK1.out; have := HK2.out; have := HJ20.out; have := HK4.out; omega⟩, ⟨by (with_reducible repeat (first | apply Kd.R_alloc | apply Kd.R_drewN | apply Kd.R_drew)); exact HO_6.out⟩, ⟨by repeat (first | (with_reducible first | exact HB.out | apply below_alloc | apply pw_below_drewN | apply below_drew1) | exact HB.out)⟩⟩
                              · rw [if_neg c30] at H
                                exact absurd H (by simp)
                            · rw [if_neg c29] at H
                              have c29b0 : decide (1 ≤ a1) = false := decide_eq_false c29
                              clear c29
                              have H' := Aside0.mk H
                              clear H
                              go_wp2
                              go_roundg k4
                              case measure => have := HK1.out; have := HK2.out; have := HJ20.out; have := HK4.out; omega
                              case rel => exact ⟨(wrap64 (x13_4 + 1)), (by first | rfl | (simp; done) | (simp [*]; done)), H', ⟨by have := HK1.out; have := HK2.out; have := HJ20.out; have := HK4.out; omega⟩, ⟨by (with_reducible repeat (first | apply Kd.R_alloc | apply Kd.R_drewN | apply Kd.R_drew)); exact HO_6.out⟩, ⟨by repeat (first | (with_reducible first | exact HB.out | apply below_alloc | apply pw_below_drewN | apply below_drew1) | exact HB.out)⟩⟩
                          · rw [if_neg c28] at H
                            have c28b0 : decide (x13_4 < (t204.length : Int)) = false := decide_eq_false c28
                            clear c28
                            obtain rfl := Option.some.inj H
                            go_wp2
                            go_ret
                            exact ⟨by first | rfl | (simp [errW_none, errW_some] <;> rfl) | (simp [*, errW_none, errW_some] <;> rfl), by repeat (first | (with_reducible first | exact HB.out | apply below_alloc | apply pw_below_drewN | apply below_drew1) | exact HB.out)⟩

/-- THE ONE PURE STATEMENT of joistlaw13_PagesLeast: yours. -/
def joistlaw13_PagesLeast.Pure : Prop := ∀ (l0 : List Int) (a1 : Int), l0.length ≤ maxLen → l0.length * 8 ≤ 140737488351232 → (∀ x ∈ l0, (Lit.int .i64 x).wf = true) → (Lit.int .i64 a1).wf = true → ∃ k, joistlaw13_PagesLeast.f k l0 a1 = some true
theorem joistlaw13_PagesLeast.walk (P : joistlaw13_PagesLeast.Pure) (a0 : Option Addr) (len0 cap0 : Nat) (z0 : List Int) (a1 : Int) (w : World) (w0 : (a0 = none ∧ len0 = 0 ∧ cap0 = 0 ∧ z0 = []) ∨ ∃ x, a0 = some x ∧ len0 ≤ cap0 ∧ cap0 ≤ maxLen ∧ z0.length = cap0 ∧ (∀ i, i < z0.length → w.cell? (x.add i) = some (.int .i64 (z0.getD i 0))) ∧ ∀ n ∈ z0, (Lit.int .i64 n).wf = true) (y0 : len0 * 8 ≤ 140737488351232) (w1 : (Lit.int .i64 a1).wf = true) :
    Calls Try.prog 10 #[.slice a0 len0 cap0, .int .i64 a1] w fun e w' => e = .returned (.bool true) ∧ Below w.heap.size w w' := by
  obtain ⟨l0, rfl, hr0, hm0, hw0, hc0⟩ := ReadsInt.ofRowC w0
  obtain ⟨k, h⟩ := P l0 a1 hm0 y0 hw0 w1
  refine (joistlaw13_PagesLeast.calls k _ _ l0 a1 true w (Kd.C_of_reads (d := (0 : Int)) (h1 := fun _ => rfl) hr0) hc0 h).mono ?_
  rintro e w' ⟨rfl, hd⟩
  exact ⟨rfl, hd⟩

/-! ### joistref12_Pages: function 22 -/
def joistref12_Pages.f (a0 : Int) : Option (Int × Int) := if a0 ≤ 120 then (some (0, 1)) else (if a0 > 2048 then (some (0, 1)) else (some (wrap64 (Int.tdiv (wrap64 ((wrap64 (a0 + 256)) - 1)) 256), 0)))
set_option maxHeartbeats 8000000 in
set_option maxRecDepth 100000 in
theorem joistref12_Pages.calls (a0 : Int) (r1 : Int) (r2 : Int) (w : World) (h : joistref12_Pages.f a0 = some (r1, r2)) :
    Calls Try.prog 22 #[.int .i64 a0] w fun e w' => e = .returned (.tuple #[.int .i64 r1, .int .i64 r2]) ∧ Drawn0 w w' := by
  have H : (if a0 ≤ 120 then (some (0, 1)) else (if a0 > 2048 then (some (0, 1)) else (some (wrap64 (Int.tdiv (wrap64 ((wrap64 (a0 + 256)) - 1)) 256), 0)))) = some (r1, r2) := h
  clear h
  by_cases c2 : a0 ≤ 120
  · rw [if_pos c2] at H
    have c2b0 : decide (a0 ≤ 120) = true := decide_eq_true c2
    clear c2
    simp only [Option.some.injEq, Prod.mk.injEq] at H
    obtain ⟨rfl, rfl⟩ := H
    go_enter Try.func22, Try.ntmps22
    go_wp2
    go_ret2
    exact ⟨by first | rfl | (simp; done) | (simp [*]; done), by repeat (first | exact Drawn0.refl _ | apply Drawn0.step)⟩
  · rw [if_neg c2] at H
    have c2b0 : decide (a0 ≤ 120) = false := decide_eq_false c2
    clear c2
    by_cases c3 : a0 > 2048
    · rw [if_pos c3] at H
      have c3b0 : decide (2048 < a0) = true := decide_eq_true c3
      clear c3
      simp only [Option.some.injEq, Prod.mk.injEq] at H
      obtain ⟨rfl, rfl⟩ := H
      go_enter Try.func22, Try.ntmps22
      go_wp2
      go_ret2
      exact ⟨by first | rfl | (simp; done) | (simp [*]; done), by repeat (first | exact Drawn0.refl _ | apply Drawn0.step)⟩
    · rw [if_neg c3] at H
      have c3b0 : decide (2048 < a0) = false := decide_eq_false c3
      clear c3
      simp only [Option.some.injEq, Prod.mk.injEq] at H
      obtain ⟨rfl, rfl⟩ := H
      go_enter Try.func22, Try.ntmps22
      go_wp2
      go_ret2
      exact ⟨by first | rfl | (simp; done) | (simp [*]; done), by repeat (first | exact Drawn0.refl _ | apply Drawn0.step)⟩

/-! ### joistref12_sizes: function 43 -/
def joistref12_sizes.f  : Option (List Int) := some (([2, 3, 5, 7, 10, 15] : List Int))
set_option maxHeartbeats 8000000 in
set_option maxRecDepth 100000 in
theorem joistref12_sizes.calls  (r : List Int) (w : World) (h : joistref12_sizes.f  = some r) :
    Calls Try.prog 43 #[] w fun e w' => ∃ v0_ : Value, e = .returned (v0_) ∧ Kd.R (Kd.int .i64) 3 w' w.heap.size (fun _ => True) v0_ r ∧ Below w.heap.size w w' := by
  have HB := Aside0.mk (Below.refl w.heap.size w)
  have H : (some (([2, 3, 5, 7, 10, 15] : List Int))) = some r := h
  clear h
  obtain ⟨y217, hy217⟩ : ∃ y_ : List Int, y_ = (([2, 3, 5, 7, 10, 15] : List Int)) := ⟨_, rfl⟩
  replace H : (some y217) = some r := by first | (rw [hy217]; with_reducible exact H) | (have H2_ := (Option.bind_some _ _).symm.trans H; rw [hy217]; with_reducible exact H2_) | (have H2_ := (Option.bind_some _ _).symm.trans H; with_reducible exact H2_) | with_reducible exact H | (rw [hy217]; exact H) | exact H
  have Ny217 := Aside0.mk hy217
  clear hy217
  obtain rfl := Option.some.inj H
  go_enter Try.func43, Try.ntmps43
  go_wp2_with (first | ((with_reducible refine gate_dst (N := 1) rfl ?_); refine Kd.R_lit (Kd.int .i64) _ 3 ?hg (N := 1) ?hd (xs := ([2, 3, 5, 7, 10, 15] : List Int)) (inner := [.int .i64 2, .int .i64 3, .int .i64 5, .int .i64 7, .int .i64 10, .int .i64 15]) (ok := fun _ => True) (okp := fun _ => True) ?hr ?hp (fun _ hk => hk) trivial (Below.refl _ _) (Nat.le_refl _) (by simp) ?_; (case hd => rfl); (case hg => rfl); (case hr => first | (go_simp; done) | (go_simp; rfl)); (case hp => exact (Reps.one (show Kd.M (Kd.int .i64) _ _ _ 2 [.int .i64 2] from rfl) (Reps.one (show Kd.M (Kd.int .i64) _ _ _ 3 [.int .i64 3] from rfl) (Reps.one (show Kd.M (Kd.int .i64) _ _ _ 5 [.int .i64 5] from rfl) (Reps.one (show Kd.M (Kd.int .i64) _ _ _ 7 [.int .i64 7] from rfl) (Reps.one (show Kd.M (Kd.int .i64) _ _ _ 10 [.int .i64 10] from rfl) (Reps.one (show Kd.M (Kd.int .i64) _ _ _ 15 [.int .i64 15] from rfl) (Reps.none _ _)))))))); intro v218 w1 ho2 hb hg_ hnew_; clear hg_ hnew_; (first | rw [← Ny217.out] at ho2 | (simp only [Int.reduceToNat] at ho2; rw [← Ny217.out] at ho2)); have n0_ := Aside0.mk (Kd.R_lower ho2 (below_size (by repeat (first | (with_reducible first | exact HB.out | apply below_alloc | apply pw_below_drewN | apply below_drew1) | exact HB.out)))); have n1_ := Aside0.mk (below_step (by repeat (first | (with_reducible first | exact HB.out | apply below_alloc | apply pw_below_drewN | apply below_drew1) | exact HB.out)) hb); clear HB; have HO219 := n0_; have HB := n1_; clear n0_ n1_; clear hb ho2))
  go_ret
  exact ⟨_, by first | rfl | (simp [errW_none, errW_some] <;> rfl) | (simp [*, errW_none, errW_some] <;> rfl), by (with_reducible repeat (first | apply Kd.R_alloc | apply Kd.R_drewN | apply Kd.R_drew)); exact HO219.out, by repeat (first | (with_reducible first | exact HB.out | apply below_alloc | apply pw_below_drewN | apply below_drew1) | exact HB.out)⟩

end Go.Proofs.Ytlpkbekpdhaplaa.P
