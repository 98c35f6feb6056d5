-- Printed by wip/tools/pp.py.
import Derived.Test.YtlpkbekpdhaplaaP0
import Derived.Test.YtlpkbekpdhaplaaP3
import Derived.Test.YtlpkbekpdhaplaaP8
import Derived.Test.YtlpkbekpdhaplaaEu
namespace Go.Proofs.Ytlpkbekpdhaplaa.P
open Go.RowKit Go.Proofs.YtlpkbekpdhaplaaW.PrintWords Go.Proofs.YtlpkbekpdhaplaaW.PrintLast Go.Proofs.YtlpkbekpdhaplaaW.PrintMore
attribute [local go_sem] max2_int min2_int max_two min_two max_three min_three max_four min_four   -- for this text's walks alone
set_option linter.unusedVariables false
set_option linter.unusedSimpArgs false

/-! ### joistref12_Pages: function 22 -/
def joistref12_Pages.f (a0 : Int) : Option (Int × Int) := if a0 ≤ 120 then (some (0, 1)) else (if a0 > 2048 then (some (0, 1)) else (some (wrap64 (Int.tdiv (wrap64 ((wrap64 (a0 + 256)) - 1)) 256), 0)))
set_option maxHeartbeats 8000000 in
set_option maxRecDepth 100000 in
theorem joistref12_Pages.calls (a0 : Int) (r1 : Int) (r2 : Int) (w : World) (h : joistref12_Pages.f a0 = some (r1, r2)) :
    Calls Try.prog 22 #[.int .i64 a0] w fun e w' => e = .returned (.tuple #[.int .i64 r1, .int .i64 r2]) ∧ Drawn0 w w' := by
  have H : (if a0 ≤ 120 then (some (0, 1)) else (if a0 > 2048 then (some (0, 1)) else (some (wrap64 (Int.tdiv (wrap64 ((wrap64 (a0 + 256)) - 1)) 256), 0)))) = some (r1, r2) := h
  clear h
  by_cases c2 : a0 ≤ 120
  · rw [if_pos c2] at H
    have c2b0 : decide (a0 ≤ 120) = true := decide_eq_true c2
    clear c2
    simp only [Option.some.injEq, Prod.mk.injEq] at H
    obtain ⟨rfl, rfl⟩ := H
    go_enter Try.func22, Try.ntmps22
    go_wp2
    go_ret2
    exact ⟨by first | rfl | (simp; done) | (simp [*]; done), by repeat (first | exact Drawn0.refl _ | apply Drawn0.step)⟩
  · rw [if_neg c2] at H
    have c2b0 : decide (a0 ≤ 120) = false := decide_eq_false c2
    clear c2
    by_cases c3 : a0 > 2048
    · rw [if_pos c3] at H
      have c3b0 : decide (2048 < a0) = true := decide_eq_true c3
      clear c3
      simp only [Option.some.injEq, Prod.mk.injEq] at H
      obtain ⟨rfl, rfl⟩ := H
      go_enter Try.func22, Try.ntmps22
      go_wp2
      go_ret2
      exact ⟨by first | rfl | (simp; done) | (simp [*]; done), by repeat (first | exact Drawn0.refl _ | apply Drawn0.step)⟩
    · rw [if_neg c3] at H
      have c3b0 : decide (2048 < a0) = false := decide_eq_false c3
      clear c3
      simp only [Option.some.injEq, Prod.mk.injEq] at H
      obtain ⟨rfl, rfl⟩ := H
      go_enter Try.func22, Try.ntmps22
      go_wp2
      go_ret2
      exact ⟨by first | rfl | (simp; done) | (simp [*]; done), by repeat (first | exact Drawn0.refl _ | apply Drawn0.step)⟩

/-! ### joistref12_sizes: function 43 -/
def joistref12_sizes.f  : Option (List Int) := some (([2, 3, 5, 7, 10, 15] : List Int))
set_option maxHeartbeats 8000000 in
set_option maxRecDepth 100000 in
theorem joistref12_sizes.calls  (r : List Int) (w : World) (h : joistref12_sizes.f  = some r) :
    Calls Try.prog 43 #[] w fun e w' => ∃ v0_ : Value, e = .returned (v0_) ∧ Kd.R (Kd.int .i64) 3 w' w.heap.size (fun _ => True) v0_ r ∧ Below w.heap.size w w' := by
  have HB := Aside0.mk (Below.refl w.heap.size w)
  have H : (some (([2, 3, 5, 7, 10, 15] : List Int))) = some r := h
  clear h
  obtain ⟨y217, hy217⟩ : ∃ y_ : List Int, y_ = (([2, 3, 5, 7, 10, 15] : List Int)) := ⟨_, rfl⟩
  replace H : (some y217) = some r := by first | (rw [hy217]; with_reducible exact H) | (have H2_ := (Option.bind_some _ _).symm.trans H; rw [hy217]; with_reducible exact H2_) | (have H2_ := (Option.bind_some _ _).symm.trans H; with_reducible exact H2_) | with_reducible exact H | (rw [hy217]; exact H) | exact H
  have Ny217 := Aside0.mk hy217
  clear hy217
  obtain rfl := Option.some.inj H
  go_enter Try.func43, Try.ntmps43
  go_wp2_with (first | ((with_reducible refine gate_dst (N := 1) rfl ?_); refine Kd.R_lit (Kd.int .i64) _ 3 ?hg (N := 1) ?hd (xs := ([2, 3, 5, 7, 10, 15] : List Int)) (inner := [.int .i64 2, .int .i64 3, .int .i64 5, .int .i64 7, .int .i64 10, .int .i64 15]) (ok := fun _ => True) (okp := fun _ => True) ?hr ?hp (fun _ hk => hk) trivial (Below.refl _ _) (Nat.le_refl _) (by simp) ?_; (case hd => rfl); (case hg => rfl); (case hr => first | (go_simp; done) | (go_simp; rfl)); (case hp => exact (Reps.one (show Kd.M (Kd.int .i64) _ _ _ 2 [.int .i64 2] from rfl) (Reps.one (show Kd.M (Kd.int .i64) _ _ _ 3 [.int .i64 3] from rfl) (Reps.one (show Kd.M (Kd.int .i64) _ _ _ 5 [.int .i64 5] from rfl) (Reps.one (show Kd.M (Kd.int .i64) _ _ _ 7 [.int .i64 7] from rfl) (Reps.one (show Kd.M (Kd.int .i64) _ _ _ 10 [.int .i64 10] from rfl) (Reps.one (show Kd.M (Kd.int .i64) _ _ _ 15 [.int .i64 15] from rfl) (Reps.none _ _)))))))); intro v218 w1 ho2 hb hg_ hnew_; clear hg_ hnew_; (first | rw [← Ny217.out] at ho2 | (simp only [Int.reduceToNat] at ho2; rw [← Ny217.out] at ho2)); have n0_ := Aside0.mk (Kd.R_lower ho2 (below_size (by repeat (first | (with_reducible first | exact HB.out | apply below_alloc | apply pw_below_drewN | apply below_drew1) | exact HB.out)))); have n1_ := Aside0.mk (below_step (by repeat (first | (with_reducible first | exact HB.out | apply below_alloc | apply pw_below_drewN | apply below_drew1) | exact HB.out)) hb); clear HB; have HO219 := n0_; have HB := n1_; clear n0_ n1_; clear hb ho2))
  go_ret
  exact ⟨_, by first | rfl | (simp [errW_none, errW_some] <;> rfl) | (simp [*, errW_none, errW_some] <;> rfl), by (with_reducible repeat (first | apply Kd.R_alloc | apply Kd.R_drewN | apply Kd.R_drew)); exact HO219.out, by repeat (first | (with_reducible first | exact HB.out | apply below_alloc | apply pw_below_drewN | apply below_drew1) | exact HB.out)⟩

end Go.Proofs.Ytlpkbekpdhaplaa.P
