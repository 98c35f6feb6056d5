-- Printed by wip/tools/pp.py.
import Derived.Test.YtcjalhlejneddaaP0
import Derived.Test.YtcjalhlejneddaaP1
import Derived.Test.YtcjalhlejneddaaP2
import Derived.Test.YtcjalhlejneddaaP3
namespace Go.Proofs.Ytcjalhlejneddaa.P
open Go.RowKit Go.Proofs.YtcjalhlejneddaaW.PrintWords Go.Proofs.YtcjalhlejneddaaW.PrintLast Go.Proofs.YtcjalhlejneddaaW.PrintMore
attribute [local go_sem] max2_int min2_int max_two min_two max_three min_three max_four min_four   -- for this text's walks alone
set_option linter.unusedVariables false
set_option linter.unusedSimpArgs false

attribute [local go_sem high] eqA25
/-! ### joistlaw10_GapsLeast: function 5 -/
def joistlaw10_GapsLeast.l0 : Nat → List (S25) → Int → Bool → Bool → Bool → Int → Int → Int → Option (Bool)
  | 0, _, _, _, _, _, _, _, _ => none
  | k + 1, x0, x1, x5, x7, x8, x9, x167000, x167001 => if x9 < (x0.length : Int) then (if x8 = true then (if 0 ≤ x9 then (if ((rd_T25 x0 x9).f1) ≥ x1 then (if x7 = true then (if ((rd_T25 x0 x9).f1) < x167001 then (some false) else (if ((rd_T25 x0 x9).f1) = x167001 then (if ((rd_T25 x0 x9).f0) < x167000 then (some false) else (joistlaw10_GapsLeast.l0 k x0 x1 x5 x7 true (wrap64 (x9 + 1)) x167000 x167001)) else (joistlaw10_GapsLeast.l0 k x0 x1 x5 x7 true (wrap64 (x9 + 1)) x167000 x167001))) else (some false)) else (joistlaw10_GapsLeast.l0 k x0 x1 x5 x7 true (wrap64 (x9 + 1)) x167000 x167001)) else (none)) else (if 0 ≤ x9 then (if ((rd_T25 x0 x9).f1) ≥ x1 then (if x7 = true then (if ((rd_T25 x0 x9).f1) < x167001 then (some false) else (if ((rd_T25 x0 x9).f1) = x167001 then (if ((rd_T25 x0 x9).f0) < x167000 then (some false) else (joistlaw10_GapsLeast.l0 k x0 x1 x5 x7 (((rd_T25 x0 x9).f0) == x167000 && (((rd_T25 x0 x9).f1) == x167001)) (wrap64 (x9 + 1)) x167000 x167001)) else (joistlaw10_GapsLeast.l0 k x0 x1 x5 x7 (((rd_T25 x0 x9).f0) == x167000 && (((rd_T25 x0 x9).f1) == x167001)) (wrap64 (x9 + 1)) x167000 x167001))) else (some false)) else (joistlaw10_GapsLeast.l0 k x0 x1 x5 x7 (((rd_T25 x0 x9).f0) == x167000 && (((rd_T25 x0 x9).f1) == x167001)) (wrap64 (x9 + 1)) x167000 x167001)) else (none))) else (if x5 = true then (if x7 = true then (if x8 = true then (if x167001 ≥ x1 then (some true) else (some false)) else (some false)) else (some (x167000 == 0 && (x167001 == 0)))) else (some false))
def joistlaw10_GapsLeast.f (k : Nat) (l0 : List (S25)) (a1 : Int) : Option (Bool) := (joistlaw10_small.f k).bind fun t162 => ((gaps_Best.f k l0 a1).bind fun bt163 => (joistlaw10_GapsLeast.l0 k l0 a1 t162 bt163.2.2 false 0 bt163.1 bt163.2.1))
theorem joistlaw10_GapsLeast.mono_l : ∀ k, (∀ y0 y1 y2 y3 y4 y5 y6 y7, LeO (joistlaw10_GapsLeast.l0 k y0 y1 y2 y3 y4 y5 y6 y7) (joistlaw10_GapsLeast.l0 (k + 1) y0 y1 y2 y3 y4 y5 y6 y7))
  | 0 => fun _ _ _ _ _ _ _ _ r h => by simp [joistlaw10_GapsLeast.l0] at h
  | k + 1 => by
    have ih0 := joistlaw10_GapsLeast.mono_l k
    · intro y0 y1 y2 y3 y4 y5 y6 y7
      unfold joistlaw10_GapsLeast.l0
      repeat' first
      | (with_reducible exact ih0 _ _ _ _ _ _ _ _)
      | (with_reducible exact gaps_Best.mono _ _ _)
      | (with_reducible exact joistlaw10_small.mono _)
      | (with_reducible exact LeO.refl _)
      | (with_reducible exact LeO.none _)
      | (with_reducible refine LeO.ite ?_ ?_)
      | (with_reducible refine LeO.bind ?_ (fun _ => ?_))
      | exact ih0 _ _ _ _ _ _ _ _
      | exact gaps_Best.mono _ _ _
      | exact joistlaw10_small.mono _
      | exact LeO.none _
      | refine LeO.ite ?_ ?_
      | refine LeO.bind ?_ (fun _ => ?_)
theorem joistlaw10_GapsLeast.mono : ∀ a0 a1 k, LeO (joistlaw10_GapsLeast.f k a0 a1) (joistlaw10_GapsLeast.f (k + 1) a0 a1) := by
  intro a0 a1 k
  have ih0 := joistlaw10_GapsLeast.mono_l k
  unfold joistlaw10_GapsLeast.f
  repeat' first
      | (with_reducible exact ih0 _ _ _ _ _ _ _ _)
      | (with_reducible exact gaps_Best.mono _ _ _)
      | (with_reducible exact joistlaw10_small.mono _)
      | (with_reducible exact LeO.refl _)
      | (with_reducible exact LeO.none _)
      | (with_reducible refine LeO.ite ?_ ?_)
      | (with_reducible refine LeO.bind ?_ (fun _ => ?_))
      | exact ih0 _ _ _ _ _ _ _ _
      | exact gaps_Best.mono _ _ _
      | exact joistlaw10_small.mono _
      | exact LeO.none _
      | refine LeO.ite ?_ ?_
      | refine LeO.bind ?_ (fun _ => ?_)
set_option maxHeartbeats 8000000 in
set_option maxRecDepth 100000 in
theorem joistlaw10_GapsLeast.calls (k : Nat) (A0 : Option Addr) (c0 : Nat) (l0 : List (S25)) (a1 : Int) (r : Bool) (w : World) (hr0 : Kd.C k25 w A0 l0.length l0) (hc0 : l0.length ≤ c0) (h : joistlaw10_GapsLeast.f k l0 a1 = some r) :
    Calls Try.prog 5 #[.slice A0 l0.length c0, .int .i64 a1] w fun e w' => e = .returned (.bool r) ∧ Below w.heap.size w w' := by
  have hu25 := Try.underlying25
  have HR0 := Aside0.mk hr0
  have HC0 := Aside0.mk hc0
  clear hr0 hc0
  have HB := Aside0.mk (Below.refl w.heap.size w)
  have H : ((joistlaw10_small.f k).bind fun t162 => ((gaps_Best.f k l0 a1).bind fun bt163 => (joistlaw10_GapsLeast.l0 k l0 a1 t162 bt163.2.2 false 0 bt163.1 bt163.2.1))) = some r := h
  clear h
  replace H := Option.bind_eq_some_iff.mp H
  obtain ⟨t162, A30, H⟩ := H
  replace H : ((gaps_Best.f k l0 a1).bind fun bt163 => (joistlaw10_GapsLeast.l0 k l0 a1 t162 bt163.2.2 false 0 bt163.1 bt163.2.1)) = some r := H
  have A3 := Aside0.mk A30
  clear A30
  replace H := Option.bind_eq_some_iff.mp H
  obtain ⟨⟨t163, t164, t165⟩, A40, H⟩ := H
  replace H : (joistlaw10_GapsLeast.l0 k l0 a1 t162 t165 false 0 t163 t164) = some r := H
  have A4 := Aside0.mk A40
  clear A40
  have H' := Aside0.mk H
  clear H
  go_enter Try.func5, Try.ntmps5
  go_wp2_with (first | (go_at_call 9; (with_reducible refine (joistlaw10_small.calls k  t162 _ A3.out).mono ?_); rintro e w5 ⟨rfl, hb⟩; have n0_ := Aside0.mk (below_step (by repeat (first | (with_reducible first | exact HB.out | apply below_alloc | apply pw_below_drewN | apply below_drew1) | exact HB.out)) hb); clear HB; have HB := n0_; clear n0_; (try clear hb); (try clear hb2); (try clear hk); (try clear hi)) | (go_at_call 10; (with_reducible refine (gaps_Best.calls k _ _ l0 a1 t163 t164 t165 _ ?side1 ?side2 A4.out).mono ?_); (case side1 => repeat (first | exact (Kd.C_below HR0.out HB.out) | (with_reducible refine Kd.C_alloc ?_ _) | (with_reducible refine Kd.C_drewN ?_ _) | (with_reducible refine Kd.C_drew ?_))); (case side2 => exact HC0.out); rintro e w6 ⟨rfl, hb⟩; have n0_ := Aside0.mk (below_step (by repeat (first | (with_reducible first | exact HB.out | apply below_alloc | apply pw_below_drewN | apply below_drew1) | exact HB.out)) hb); clear HB; have HB := n0_; clear n0_; (try clear hb); (try clear hb2); (try clear hk); (try clear hi)) | ((with_reducible refine gate_dst (N := 6) rfl ?_); refine box_event ?hg (N := 6) ?hd (cs := #[.int .i64 0, .int .i64 0]) (t := 25) ?hr ?_; (case hd => rfl); (case hg => rfl); (case hr => first | (go_simp; done) | (go_simp; rfl)); intro gb166 hg w7 hbox hb; have n0_ := Aside0.mk (below_step (by repeat (first | (with_reducible first | exact HB.out | apply below_alloc | apply pw_below_drewN | apply below_drew1) | exact HB.out)) hb); have n1_ := Aside0.mk (hbox); have n2_ := Aside0.mk ((by rw [hg]; exact (below_size (by repeat (first | (with_reducible first | exact HB.out | apply below_alloc | apply pw_below_drewN | apply below_drew1) | exact HB.out))) : w.heap.size ≤ gb166)); have n3_ := Aside0.mk ((by rw [hg]; exact (below_size (by repeat (first | (with_reducible first | exact HB.out | apply below_alloc | apply pw_below_drewN | apply below_drew1) | exact HB.out))) : w.heap.size ≤ gb166)); clear HB; have HB := n0_; have BK166 := n1_; have GW166 := n2_; have GE166 := n3_; clear n0_ n1_ n2_ n3_; clear hb hbox hg; have hcz8_0 : w7.cell? ⟨gb166, 0, none⟩ = some (.int .i64 0) := (blk_cell BK166.out 0).trans rfl; have hcz8_1 : w7.cell? ⟨gb166, 1, none⟩ = some (.int .i64 0) := (blk_cell BK166.out 1).trans rfl; have hfz8_0 := blk_frozen BK166.out 0; have hfz8_1 := blk_frozen BK166.out 1))
  repeat (go_quiet (first | (go_at_call 9; (with_reducible refine (joistlaw10_small.calls k  t162 _ A3.out).mono ?_); rintro e w5 ⟨rfl, hb⟩; have n0_ := Aside0.mk (below_step (by repeat (first | (with_reducible first | exact HB.out | apply below_alloc | apply pw_below_drewN | apply below_drew1) | exact HB.out)) hb); clear HB; have HB := n0_; clear n0_; (try clear hb); (try clear hb2); (try clear hk); (try clear hi)) | (go_at_call 10; (with_reducible refine (gaps_Best.calls k _ _ l0 a1 t163 t164 t165 _ ?side1 ?side2 A4.out).mono ?_); (case side1 => repeat (first | exact (Kd.C_below HR0.out HB.out) | (with_reducible refine Kd.C_alloc ?_ _) | (with_reducible refine Kd.C_drewN ?_ _) | (with_reducible refine Kd.C_drew ?_))); (case side2 => exact HC0.out); rintro e w6 ⟨rfl, hb⟩; have n0_ := Aside0.mk (below_step (by repeat (first | (with_reducible first | exact HB.out | apply below_alloc | apply pw_below_drewN | apply below_drew1) | exact HB.out)) hb); clear HB; have HB := n0_; clear n0_; (try clear hb); (try clear hb2); (try clear hk); (try clear hi)) | ((with_reducible refine gate_dst (N := 6) rfl ?_); refine box_event ?hg (N := 6) ?hd (cs := #[.int .i64 0, .int .i64 0]) (t := 25) ?hr ?_; (case hd => rfl); (case hg => rfl); (case hr => first | (go_simp; done) | (go_simp; rfl)); intro gb166 hg w7 hbox hb; have n0_ := Aside0.mk (below_step (by repeat (first | (with_reducible first | exact HB.out | apply below_alloc | apply pw_below_drewN | apply below_drew1) | exact HB.out)) hb); have n1_ := Aside0.mk (hbox); have n2_ := Aside0.mk ((by rw [hg]; exact (below_size (by repeat (first | (with_reducible first | exact HB.out | apply below_alloc | apply pw_below_drewN | apply below_drew1) | exact HB.out))) : w.heap.size ≤ gb166)); have n3_ := Aside0.mk ((by rw [hg]; exact (below_size (by repeat (first | (with_reducible first | exact HB.out | apply below_alloc | apply pw_below_drewN | apply below_drew1) | exact HB.out))) : w.heap.size ≤ gb166)); clear HB; have HB := n0_; have BK166 := n1_; have GW166 := n2_; have GE166 := n3_; clear n0_ n1_ n2_ n3_; clear hb hbox hg; have hcz8_0 : w7.cell? ⟨gb166, 0, none⟩ = some (.int .i64 0) := (blk_cell BK166.out 0).trans rfl; have hcz8_1 : w7.cell? ⟨gb166, 1, none⟩ = some (.int .i64 0) := (blk_cell BK166.out 1).trans rfl; have hfz8_0 := blk_frozen BK166.out 0; have hfz8_1 := blk_frozen BK166.out 1)); try go_wp2_with (first | (go_at_call 9; (with_reducible refine (joistlaw10_small.calls k  t162 _ A3.out).mono ?_); rintro e w5 ⟨rfl, hb⟩; have n0_ := Aside0.mk (below_step (by repeat (first | (with_reducible first | exact HB.out | apply below_alloc | apply pw_below_drewN | apply below_drew1) | exact HB.out)) hb); clear HB; have HB := n0_; clear n0_; (try clear hb); (try clear hb2); (try clear hk); (try clear hi)) | (go_at_call 10; (with_reducible refine (gaps_Best.calls k _ _ l0 a1 t163 t164 t165 _ ?side1 ?side2 A4.out).mono ?_); (case side1 => repeat (first | exact (Kd.C_below HR0.out HB.out) | (with_reducible refine Kd.C_alloc ?_ _) | (with_reducible refine Kd.C_drewN ?_ _) | (with_reducible refine Kd.C_drew ?_))); (case side2 => exact HC0.out); rintro e w6 ⟨rfl, hb⟩; have n0_ := Aside0.mk (below_step (by repeat (first | (with_reducible first | exact HB.out | apply below_alloc | apply pw_below_drewN | apply below_drew1) | exact HB.out)) hb); clear HB; have HB := n0_; clear n0_; (try clear hb); (try clear hb2); (try clear hk); (try clear hi)) | ((with_reducible refine gate_dst (N := 6) rfl ?_); refine box_event ?hg (N := 6) ?hd (cs := #[.int .i64 0, .int .i64 0]) (t := 25) ?hr ?_; (case hd => rfl); (case hg => rfl); (case hr => first | (go_simp; done) | (go_simp; rfl)); intro gb166 hg w7 hbox hb; have n0_ := Aside0.mk (below_step (by repeat (first | (with_reducible first | exact HB.out | apply below_alloc | apply pw_below_drewN | apply below_drew1) | exact HB.out)) hb); have n1_ := Aside0.mk (hbox); have n2_ := Aside0.mk ((by rw [hg]; exact (below_size (by repeat (first | (with_reducible first | exact HB.out | apply below_alloc | apply pw_below_drewN | apply below_drew1) | exact HB.out))) : w.heap.size ≤ gb166)); have n3_ := Aside0.mk ((by rw [hg]; exact (below_size (by repeat (first | (with_reducible first | exact HB.out | apply below_alloc | apply pw_below_drewN | apply below_drew1) | exact HB.out))) : w.heap.size ≤ gb166)); clear HB; have HB := n0_; have BK166 := n1_; have GW166 := n2_; have GE166 := n3_; clear n0_ n1_ n2_ n3_; clear hb hbox hg; have hcz8_0 : w7.cell? ⟨gb166, 0, none⟩ = some (.int .i64 0) := (blk_cell BK166.out 0).trans rfl; have hcz8_1 : w7.cell? ⟨gb166, 1, none⟩ = some (.int .i64 0) := (blk_cell BK166.out 1).trans rfl; have hfz8_0 := blk_frozen BK166.out 0; have hfz8_1 := blk_frozen BK166.out 1)))
  go_loopg [8, 9] k (fun kq v8 v9 w' => ∃ (x8_1 : Bool) (x9_1 : Int), v8 = .bool x8_1 ∧ v9 = .int .i64 x9_1 ∧ Aside0 (joistlaw10_GapsLeast.l0 kq l0 a1 t162 t165 x8_1 x9_1 t163 t164 = some r) ∧ Aside0 (kq ≤ k) ∧ Aside0 (w'.heap[gb166]? = some (.cells #[.int .i64 t163, .int .i64 t164] 25 (0, 0))) ∧ Aside0 (Below w.heap.size w w'))
  case atStart => exact ⟨(false), (0), (by first | rfl | (simp; done) | (simp [*]; done)), (by first | rfl | (simp; done) | (simp [*]; done)), H', ⟨Nat.le_refl _⟩, ⟨by (with_reducible repeat (first | refine blk_drewN ?_ _ | refine blk_drew ?_ | refine blk_alloc ?_ _)); refine blk_put (cs := #[.int .i64 t163, .int .i64 0]) ?_ 1 _ rfl; (with_reducible repeat (first | refine blk_drewN ?_ _ | refine blk_drew ?_ | refine blk_alloc ?_ _)); refine blk_put (cs := #[.int .i64 0, .int .i64 0]) ?_ 0 _ rfl; (with_reducible repeat (first | refine blk_drewN ?_ _ | refine blk_drew ?_ | refine blk_alloc ?_ _)); exact BK166.out⟩, ⟨by repeat (first | (with_reducible first | exact HB.out | apply below_alloc | apply pw_below_drewN | apply below_drew1 | refine below_set ?_ GE166.out) | exact HB.out)⟩⟩
  case round =>
    clear H'
    try clear p2
    try clear c5
    try clear hcz8_0
    try clear hcz8_1
    try clear hfz8_0
    try clear hfz8_1
    obtain ⟨x8_1, x9_1, rfl, rfl, HA, HK1, BK166, HB⟩ := hrel
    cases gk with
    | zero => exact absurd HA.out (by simp [joistlaw10_GapsLeast.l0])
    | succ k1 =>
      have H := HA.out
      clear HA
      simp only [joistlaw10_GapsLeast.l0] at H
      by_cases c9 : x9_1 < (l0.length : Int)
      · rw [if_pos c9] at H
        have c9b0 : decide (x9_1 < (l0.length : Int)) = true := decide_eq_true c9
        clear c9
        by_cases c10 : x8_1 = true
        · subst c10
          have H1 : (if 0 ≤ x9_1 then (if ((rd_T25 l0 x9_1).f1) ≥ a1 then (if t165 = true then (if ((rd_T25 l0 x9_1).f1) < t164 then (some false) else (if ((rd_T25 l0 x9_1).f1) = t164 then (if ((rd_T25 l0 x9_1).f0) < t163 then (some false) else (joistlaw10_GapsLeast.l0 k1 l0 a1 t162 t165 true (wrap64 (x9_1 + 1)) t163 t164)) else (joistlaw10_GapsLeast.l0 k1 l0 a1 t162 t165 true (wrap64 (x9_1 + 1)) t163 t164))) else (some false)) else (joistlaw10_GapsLeast.l0 k1 l0 a1 t162 t165 true (wrap64 (x9_1 + 1)) t163 t164)) else (none)) = some r := by rw [if_pos rfl] at H; exact H
          clear H
          have H := H1
          clear H1
          by_cases c11 : 0 ≤ x9_1
          · rw [if_pos c11] at H
            have c11b0 : decide (0 ≤ x9_1) = true := decide_eq_true c11
            clear c11
            by_cases c12 : ((rd_T25 l0 x9_1).f1) ≥ a1
            · rw [if_pos c12] at H
              have c12b0 : decide (a1 ≤ ((rd_T25 l0 x9_1).f1)) = true := decide_eq_true c12
              clear c12
              by_cases c13 : t165 = true
              · subst c13
                have H1 : (if ((rd_T25 l0 x9_1).f1) < t164 then (some false) else (if ((rd_T25 l0 x9_1).f1) = t164 then (if ((rd_T25 l0 x9_1).f0) < t163 then (some false) else (joistlaw10_GapsLeast.l0 k1 l0 a1 t162 true true (wrap64 (x9_1 + 1)) t163 t164)) else (joistlaw10_GapsLeast.l0 k1 l0 a1 t162 true true (wrap64 (x9_1 + 1)) t163 t164))) = some r := by rw [if_pos rfl] at H; exact H
                clear H
                have H := H1
                clear H1
                by_cases c14 : ((rd_T25 l0 x9_1).f1) < t164
                · rw [if_pos c14] at H
                  have c14b0 : decide (((rd_T25 l0 x9_1).f1) < t164) = true := decide_eq_true c14
                  clear c14
                  obtain rfl := Option.some.inj H
                  have p167 : 0 ≤ (x9_1 : Int) := of_decide_eq_true (by first | (with_reducible assumption) | assumption)
                  have q167 : x9_1 < (l0.length : Int) := of_decide_eq_true (by first | (with_reducible assumption) | assumption)
                  obtain ⟨ad167, e167, hx167_0, hx167_1⟩ := at_T25 HR0.out x9_1 p167 q167
                  cases e167
                  replace hx167_0 := (HB.out.cell (World.block_lt_of_cell? w _ hx167_0)).trans hx167_0
                  replace hx167_1 := (HB.out.cell (World.block_lt_of_cell? w _ hx167_1)).trans hx167_1
                  replace p167 := eq_true p167
                  replace q167 := eq_true q167
                  have p168 : 0 ≤ (x9_1 : Int) := of_decide_eq_true (by first | (with_reducible assumption) | assumption)
                  have q168 : x9_1 < (l0.length : Int) := of_decide_eq_true (by first | (with_reducible assumption) | assumption)
                  obtain ⟨ad168, e168, hx168_0, hx168_1⟩ := at_T25 HR0.out x9_1 p168 q168
                  obtain rfl : ad167 = ad168 := (by injection e168)
                  replace hx168_0 := (HB.out.cell (World.block_lt_of_cell? w _ hx168_0)).trans hx168_0
                  replace hx168_1 := (HB.out.cell (World.block_lt_of_cell? w _ hx168_1)).trans hx168_1
                  replace p168 := eq_true p168
                  replace q168 := eq_true q168
                  have hcz15_0 : wr.cell? ⟨gb166, 0, none⟩ = some (.int .i64 t163) := (blk_cell BK166.out 0).trans rfl
                  have hcz15_1 : wr.cell? ⟨gb166, 1, none⟩ = some (.int .i64 t164) := (blk_cell BK166.out 1).trans rfl
                  have hfz15_0 := blk_frozen BK166.out 0
                  have hfz15_1 := blk_frozen BK166.out 1
                  go_wp2
                  repeat (go_quiet (fail); try go_wp2)
                  go_ret
                  exact ⟨by first | rfl | (simp [errW_none, errW_some] <;> rfl) | (simp [*, errW_none, errW_some] <;> rfl), by repeat (first | (with_reducible first | exact HB.out | apply below_alloc | apply pw_below_drewN | apply below_drew1 | refine below_set ?_ GE166.out) | exact HB.out)⟩
                · rw [if_neg c14] at H
                  have c14b0 : decide (((rd_T25 l0 x9_1).f1) < t164) = false := decide_eq_false c14
                  clear c14
                  by_cases c16 : ((rd_T25 l0 x9_1).f1) = t164
                  · rw [if_pos c16] at H
                    have c16b0 : (((rd_T25 l0 x9_1).f1) == t164) = true := beq_iff_eq.mpr c16
                    have c16b1 : (((rd_T25 l0 x9_1).f1) != t164) = false := bne_eq_false_iff_eq.mpr c16
                    clear c16
                    by_cases c17 : ((rd_T25 l0 x9_1).f0) < t163
                    · rw [if_pos c17] at H
                      have c17b0 : decide (((rd_T25 l0 x9_1).f0) < t163) = true := decide_eq_true c17
                      clear c17
                      obtain rfl := Option.some.inj H
                      have p167 : 0 ≤ (x9_1 : Int) := of_decide_eq_true (by first | (with_reducible assumption) | assumption)
                      have q167 : x9_1 < (l0.length : Int) := of_decide_eq_true (by first | (with_reducible assumption) | assumption)
                      obtain ⟨ad167, e167, hx167_0, hx167_1⟩ := at_T25 HR0.out x9_1 p167 q167
                      cases e167
                      replace hx167_0 := (HB.out.cell (World.block_lt_of_cell? w _ hx167_0)).trans hx167_0
                      replace hx167_1 := (HB.out.cell (World.block_lt_of_cell? w _ hx167_1)).trans hx167_1
                      replace p167 := eq_true p167
                      replace q167 := eq_true q167
                      have p168 : 0 ≤ (x9_1 : Int) := of_decide_eq_true (by first | (with_reducible assumption) | assumption)
                      have q168 : x9_1 < (l0.length : Int) := of_decide_eq_true (by first | (with_reducible assumption) | assumption)
                      obtain ⟨ad168, e168, hx168_0, hx168_1⟩ := at_T25 HR0.out x9_1 p168 q168
                      obtain rfl : ad167 = ad168 := (by injection e168)
                      replace hx168_0 := (HB.out.cell (World.block_lt_of_cell? w _ hx168_0)).trans hx168_0
                      replace hx168_1 := (HB.out.cell (World.block_lt_of_cell? w _ hx168_1)).trans hx168_1
                      replace p168 := eq_true p168
                      replace q168 := eq_true q168
                      have hcz18_0 : wr.cell? ⟨gb166, 0, none⟩ = some (.int .i64 t163) := (blk_cell BK166.out 0).trans rfl
                      have hcz18_1 : wr.cell? ⟨gb166, 1, none⟩ = some (.int .i64 t164) := (blk_cell BK166.out 1).trans rfl
                      have hfz18_0 := blk_frozen BK166.out 0
                      have hfz18_1 := blk_frozen BK166.out 1
                      have p169 : 0 ≤ (x9_1 : Int) := of_decide_eq_true (by first | (with_reducible assumption) | assumption)
                      have q169 : x9_1 < (l0.length : Int) := of_decide_eq_true (by first | (with_reducible assumption) | assumption)
                      obtain ⟨ad169, e169, hx169_0, hx169_1⟩ := at_T25 HR0.out x9_1 p169 q169
                      obtain rfl : ad167 = ad169 := (by injection e169)
                      replace hx169_0 := (HB.out.cell (World.block_lt_of_cell? w _ hx169_0)).trans hx169_0
                      replace hx169_1 := (HB.out.cell (World.block_lt_of_cell? w _ hx169_1)).trans hx169_1
                      replace p169 := eq_true p169
                      replace q169 := eq_true q169
                      have p170 : 0 ≤ (x9_1 : Int) := of_decide_eq_true (by first | (with_reducible assumption) | assumption)
                      have q170 : x9_1 < (l0.length : Int) := of_decide_eq_true (by first | (with_reducible assumption) | assumption)
                      obtain ⟨ad170, e170, hx170_0, hx170_1⟩ := at_T25 HR0.out x9_1 p170 q170
                      obtain rfl : ad167 = ad170 := (by injection e170)
                      replace hx170_0 := (HB.out.cell (World.block_lt_of_cell? w _ hx170_0)).trans hx170_0
                      replace hx170_1 := (HB.out.cell (World.block_lt_of_cell? w _ hx170_1)).trans hx170_1
                      replace p170 := eq_true p170
                      replace q170 := eq_true q170
                      go_wp2
                      repeat (go_quiet (fail); try go_wp2)
                      go_ret
                      exact ⟨by first | rfl | (simp [errW_none, errW_some] <;> rfl) | (simp [*, errW_none, errW_some] <;> rfl), by repeat (first | (with_reducible first | exact HB.out | apply below_alloc | apply pw_below_drewN | apply below_drew1 | refine below_set ?_ GE166.out) | exact HB.out)⟩
                    · rw [if_neg c17] at H
                      have c17b0 : decide (((rd_T25 l0 x9_1).f0) < t163) = false := decide_eq_false c17
                      clear c17
                      have H' := Aside0.mk H
                      clear H
                      have p167 : 0 ≤ (x9_1 : Int) := of_decide_eq_true (by first | (with_reducible assumption) | assumption)
                      have q167 : x9_1 < (l0.length : Int) := of_decide_eq_true (by first | (with_reducible assumption) | assumption)
                      obtain ⟨ad167, e167, hx167_0, hx167_1⟩ := at_T25 HR0.out x9_1 p167 q167
                      cases e167
                      replace hx167_0 := (HB.out.cell (World.block_lt_of_cell? w _ hx167_0)).trans hx167_0
                      replace hx167_1 := (HB.out.cell (World.block_lt_of_cell? w _ hx167_1)).trans hx167_1
                      replace p167 := eq_true p167
                      replace q167 := eq_true q167
                      have p168 : 0 ≤ (x9_1 : Int) := of_decide_eq_true (by first | (with_reducible assumption) | assumption)
                      have q168 : x9_1 < (l0.length : Int) := of_decide_eq_true (by first | (with_reducible assumption) | assumption)
                      obtain ⟨ad168, e168, hx168_0, hx168_1⟩ := at_T25 HR0.out x9_1 p168 q168
                      obtain rfl : ad167 = ad168 := (by injection e168)
                      replace hx168_0 := (HB.out.cell (World.block_lt_of_cell? w _ hx168_0)).trans hx168_0
                      replace hx168_1 := (HB.out.cell (World.block_lt_of_cell? w _ hx168_1)).trans hx168_1
                      replace p168 := eq_true p168
                      replace q168 := eq_true q168
                      have hcz19_0 : wr.cell? ⟨gb166, 0, none⟩ = some (.int .i64 t163) := (blk_cell BK166.out 0).trans rfl
                      have hcz19_1 : wr.cell? ⟨gb166, 1, none⟩ = some (.int .i64 t164) := (blk_cell BK166.out 1).trans rfl
                      have hfz19_0 := blk_frozen BK166.out 0
                      have hfz19_1 := blk_frozen BK166.out 1
                      have p169 : 0 ≤ (x9_1 : Int) := of_decide_eq_true (by first | (with_reducible assumption) | assumption)
                      have q169 : x9_1 < (l0.length : Int) := of_decide_eq_true (by first | (with_reducible assumption) | assumption)
                      obtain ⟨ad169, e169, hx169_0, hx169_1⟩ := at_T25 HR0.out x9_1 p169 q169
                      obtain rfl : ad167 = ad169 := (by injection e169)
                      replace hx169_0 := (HB.out.cell (World.block_lt_of_cell? w _ hx169_0)).trans hx169_0
                      replace hx169_1 := (HB.out.cell (World.block_lt_of_cell? w _ hx169_1)).trans hx169_1
                      replace p169 := eq_true p169
                      replace q169 := eq_true q169
                      have p170 : 0 ≤ (x9_1 : Int) := of_decide_eq_true (by first | (with_reducible assumption) | assumption)
                      have q170 : x9_1 < (l0.length : Int) := of_decide_eq_true (by first | (with_reducible assumption) | assumption)
                      obtain ⟨ad170, e170, hx170_0, hx170_1⟩ := at_T25 HR0.out x9_1 p170 q170
                      obtain rfl : ad167 = ad170 := (by injection e170)
                      replace hx170_0 := (HB.out.cell (World.block_lt_of_cell? w _ hx170_0)).trans hx170_0
                      replace hx170_1 := (HB.out.cell (World.block_lt_of_cell? w _ hx170_1)).trans hx170_1
                      replace p170 := eq_true p170
                      replace q170 := eq_true q170
                      go_wp2
                      repeat (go_quiet (fail); try go_wp2)
                      go_roundg k1
                      case measure => have := HK1.out; omega
                      case rel => exact ⟨(true), (wrap64 (x9_1 + 1)), (by first | rfl | (simp; done) | (simp [*]; done)), (by first | rfl | (simp; done) | (simp [*]; done)), H', ⟨by have := HK1.out; omega⟩, ⟨by (with_reducible repeat (first | refine blk_drewN ?_ _ | refine blk_drew ?_ | refine blk_alloc ?_ _)); exact BK166.out⟩, ⟨by repeat (first | (with_reducible first | exact HB.out | apply below_alloc | apply pw_below_drewN | apply below_drew1 | refine below_set ?_ GE166.out) | exact HB.out)⟩⟩
                  · rw [if_neg c16] at H
                    have c16b0 : (((rd_T25 l0 x9_1).f1) == t164) = false := beq_eq_false_iff_ne.mpr c16
                    have c16b1 : (((rd_T25 l0 x9_1).f1) != t164) = true := bne_iff_ne.mpr c16
                    have H' := Aside0.mk H
                    clear H
                    have p167 : 0 ≤ (x9_1 : Int) := of_decide_eq_true (by first | (with_reducible assumption) | assumption)
                    have q167 : x9_1 < (l0.length : Int) := of_decide_eq_true (by first | (with_reducible assumption) | assumption)
                    obtain ⟨ad167, e167, hx167_0, hx167_1⟩ := at_T25 HR0.out x9_1 p167 q167
                    cases e167
                    replace hx167_0 := (HB.out.cell (World.block_lt_of_cell? w _ hx167_0)).trans hx167_0
                    replace hx167_1 := (HB.out.cell (World.block_lt_of_cell? w _ hx167_1)).trans hx167_1
                    replace p167 := eq_true p167
                    replace q167 := eq_true q167
                    have p168 : 0 ≤ (x9_1 : Int) := of_decide_eq_true (by first | (with_reducible assumption) | assumption)
                    have q168 : x9_1 < (l0.length : Int) := of_decide_eq_true (by first | (with_reducible assumption) | assumption)
                    obtain ⟨ad168, e168, hx168_0, hx168_1⟩ := at_T25 HR0.out x9_1 p168 q168
                    obtain rfl : ad167 = ad168 := (by injection e168)
                    replace hx168_0 := (HB.out.cell (World.block_lt_of_cell? w _ hx168_0)).trans hx168_0
                    replace hx168_1 := (HB.out.cell (World.block_lt_of_cell? w _ hx168_1)).trans hx168_1
                    replace p168 := eq_true p168
                    replace q168 := eq_true q168
                    have hcz20_0 : wr.cell? ⟨gb166, 0, none⟩ = some (.int .i64 t163) := (blk_cell BK166.out 0).trans rfl
                    have hcz20_1 : wr.cell? ⟨gb166, 1, none⟩ = some (.int .i64 t164) := (blk_cell BK166.out 1).trans rfl
                    have hfz20_0 := blk_frozen BK166.out 0
                    have hfz20_1 := blk_frozen BK166.out 1
                    have p169 : 0 ≤ (x9_1 : Int) := of_decide_eq_true (by first | (with_reducible assumption) | assumption)
                    have q169 : x9_1 < (l0.length : Int) := of_decide_eq_true (by first | (with_reducible assumption) | assumption)
                    obtain ⟨ad169, e169, hx169_0, hx169_1⟩ := at_T25 HR0.out x9_1 p169 q169
                    obtain rfl : ad167 = ad169 := (by injection e169)
                    replace hx169_0 := (HB.out.cell (World.block_lt_of_cell? w _ hx169_0)).trans hx169_0
                    replace hx169_1 := (HB.out.cell (World.block_lt_of_cell? w _ hx169_1)).trans hx169_1
                    replace p169 := eq_true p169
                    replace q169 := eq_true q169
                    go_wp2
                    repeat (go_quiet (fail); try go_wp2)
                    go_roundg k1
                    case measure => have := HK1.out; omega
                    case rel => exact ⟨(true), (wrap64 (x9_1 + 1)), (by first | rfl | (simp; done) | (simp [*]; done)), (by first | rfl | (simp; done) | (simp [*]; done)), H', ⟨by have := HK1.out; omega⟩, ⟨by (with_reducible repeat (first | refine blk_drewN ?_ _ | refine blk_drew ?_ | refine blk_alloc ?_ _)); exact BK166.out⟩, ⟨by repeat (first | (with_reducible first | exact HB.out | apply below_alloc | apply pw_below_drewN | apply below_drew1 | refine below_set ?_ GE166.out) | exact HB.out)⟩⟩
              · replace c13 := Bool.eq_false_iff.mpr c13
                subst c13
                have H1 : (some false) = some r := by rw [if_neg (show ¬ (false = true) by decide)] at H; exact H
                clear H
                have H := H1
                clear H1
                obtain rfl := Option.some.inj H
                have p167 : 0 ≤ (x9_1 : Int) := of_decide_eq_true (by first | (with_reducible assumption) | assumption)
                have q167 : x9_1 < (l0.length : Int) := of_decide_eq_true (by first | (with_reducible assumption) | assumption)
                obtain ⟨ad167, e167, hx167_0, hx167_1⟩ := at_T25 HR0.out x9_1 p167 q167
                cases e167
                replace hx167_0 := (HB.out.cell (World.block_lt_of_cell? w _ hx167_0)).trans hx167_0
                replace hx167_1 := (HB.out.cell (World.block_lt_of_cell? w _ hx167_1)).trans hx167_1
                replace p167 := eq_true p167
                replace q167 := eq_true q167
                go_wp2
                repeat (go_quiet (fail); try go_wp2)
                go_ret
                exact ⟨by first | rfl | (simp [errW_none, errW_some] <;> rfl) | (simp [*, errW_none, errW_some] <;> rfl), by repeat (first | (with_reducible first | exact HB.out | apply below_alloc | apply pw_below_drewN | apply below_drew1 | refine below_set ?_ GE166.out) | exact HB.out)⟩
            · rw [if_neg c12] at H
              have c12b0 : decide (a1 ≤ ((rd_T25 l0 x9_1).f1)) = false := decide_eq_false c12
              clear c12
              have H' := Aside0.mk H
              clear H
              have p167 : 0 ≤ (x9_1 : Int) := of_decide_eq_true (by first | (with_reducible assumption) | assumption)
              have q167 : x9_1 < (l0.length : Int) := of_decide_eq_true (by first | (with_reducible assumption) | assumption)
              obtain ⟨ad167, e167, hx167_0, hx167_1⟩ := at_T25 HR0.out x9_1 p167 q167
              cases e167
              replace hx167_0 := (HB.out.cell (World.block_lt_of_cell? w _ hx167_0)).trans hx167_0
              replace hx167_1 := (HB.out.cell (World.block_lt_of_cell? w _ hx167_1)).trans hx167_1
              replace p167 := eq_true p167
              replace q167 := eq_true q167
              go_wp2
              repeat (go_quiet (fail); try go_wp2)
              go_roundg k1
              case measure => have := HK1.out; omega
              case rel => exact ⟨(true), (wrap64 (x9_1 + 1)), (by first | rfl | (simp; done) | (simp [*]; done)), (by first | rfl | (simp; done) | (simp [*]; done)), H', ⟨by have := HK1.out; omega⟩, ⟨by (with_reducible repeat (first | refine blk_drewN ?_ _ | refine blk_drew ?_ | refine blk_alloc ?_ _)); exact BK166.out⟩, ⟨by repeat (first | (with_reducible first | exact HB.out | apply below_alloc | apply pw_below_drewN | apply below_drew1 | refine below_set ?_ GE166.out) | exact HB.out)⟩⟩
          · rw [if_neg c11] at H
            exact absurd H (by simp)
        · replace c10 := Bool.eq_false_iff.mpr c10
          subst c10
          have H1 : (if 0 ≤ x9_1 then (if ((rd_T25 l0 x9_1).f1) ≥ a1 then (if t165 = true then (if ((rd_T25 l0 x9_1).f1) < t164 then (some false) else (if ((rd_T25 l0 x9_1).f1) = t164 then (if ((rd_T25 l0 x9_1).f0) < t163 then (some false) else (joistlaw10_GapsLeast.l0 k1 l0 a1 t162 t165 (((rd_T25 l0 x9_1).f0) == t163 && (((rd_T25 l0 x9_1).f1) == t164)) (wrap64 (x9_1 + 1)) t163 t164)) else (joistlaw10_GapsLeast.l0 k1 l0 a1 t162 t165 (((rd_T25 l0 x9_1).f0) == t163 && (((rd_T25 l0 x9_1).f1) == t164)) (wrap64 (x9_1 + 1)) t163 t164))) else (some false)) else (joistlaw10_GapsLeast.l0 k1 l0 a1 t162 t165 (((rd_T25 l0 x9_1).f0) == t163 && (((rd_T25 l0 x9_1).f1) == t164)) (wrap64 (x9_1 + 1)) t163 t164)) else (none)) = some r := by rw [if_neg (show ¬ (false = true) by decide)] at H; exact H
          clear H
          have H := H1
          clear H1
          by_cases c21 : 0 ≤ x9_1
          · rw [if_pos c21] at H
            have c21b0 : decide (0 ≤ x9_1) = true := decide_eq_true c21
            clear c21
            by_cases c22 : ((rd_T25 l0 x9_1).f1) ≥ a1
            · rw [if_pos c22] at H
              have c22b0 : decide (a1 ≤ ((rd_T25 l0 x9_1).f1)) = true := decide_eq_true c22
              clear c22
              by_cases c23 : t165 = true
              · subst c23
                have H1 : (if ((rd_T25 l0 x9_1).f1) < t164 then (some false) else (if ((rd_T25 l0 x9_1).f1) = t164 then (if ((rd_T25 l0 x9_1).f0) < t163 then (some false) else (joistlaw10_GapsLeast.l0 k1 l0 a1 t162 true (((rd_T25 l0 x9_1).f0) == t163 && (((rd_T25 l0 x9_1).f1) == t164)) (wrap64 (x9_1 + 1)) t163 t164)) else (joistlaw10_GapsLeast.l0 k1 l0 a1 t162 true (((rd_T25 l0 x9_1).f0) == t163 && (((rd_T25 l0 x9_1).f1) == t164)) (wrap64 (x9_1 + 1)) t163 t164))) = some r := by rw [if_pos rfl] at H; exact H
                clear H
                have H := H1
                clear H1
                by_cases c24 : ((rd_T25 l0 x9_1).f1) < t164
                · rw [if_pos c24] at H
                  have c24b0 : decide (((rd_T25 l0 x9_1).f1) < t164) = true := decide_eq_true c24
                  clear c24
                  obtain rfl := Option.some.inj H
                  have p171 : 0 ≤ (x9_1 : Int) := of_decide_eq_true (by first | (with_reducible assumption) | assumption)
                  have q171 : x9_1 < (l0.length : Int) := of_decide_eq_true (by first | (with_reducible assumption) | assumption)
                  obtain ⟨ad171, e171, hx171_0, hx171_1⟩ := at_T25 HR0.out x9_1 p171 q171
                  cases e171
                  replace hx171_0 := (HB.out.cell (World.block_lt_of_cell? w _ hx171_0)).trans hx171_0
                  replace hx171_1 := (HB.out.cell (World.block_lt_of_cell? w _ hx171_1)).trans hx171_1
                  replace p171 := eq_true p171
                  replace q171 := eq_true q171
                  have hcz25_0 : wr.cell? ⟨gb166, 0, none⟩ = some (.int .i64 t163) := (blk_cell BK166.out 0).trans rfl
                  have hcz25_1 : wr.cell? ⟨gb166, 1, none⟩ = some (.int .i64 t164) := (blk_cell BK166.out 1).trans rfl
                  have hfz25_0 := blk_frozen BK166.out 0
                  have hfz25_1 := blk_frozen BK166.out 1
                  have p172 : 0 ≤ (x9_1 : Int) := of_decide_eq_true (by first | (with_reducible assumption) | assumption)
                  have q172 : x9_1 < (l0.length : Int) := of_decide_eq_true (by first | (with_reducible assumption) | assumption)
                  obtain ⟨ad172, e172, hx172_0, hx172_1⟩ := at_T25 HR0.out x9_1 p172 q172
                  obtain rfl : ad171 = ad172 := (by injection e172)
                  replace hx172_0 := (HB.out.cell (World.block_lt_of_cell? w _ hx172_0)).trans hx172_0
                  replace hx172_1 := (HB.out.cell (World.block_lt_of_cell? w _ hx172_1)).trans hx172_1
                  replace p172 := eq_true p172
                  replace q172 := eq_true q172
                  have p173 : 0 ≤ (x9_1 : Int) := of_decide_eq_true (by first | (with_reducible assumption) | assumption)
                  have q173 : x9_1 < (l0.length : Int) := of_decide_eq_true (by first | (with_reducible assumption) | assumption)
                  obtain ⟨ad173, e173, hx173_0, hx173_1⟩ := at_T25 HR0.out x9_1 p173 q173
                  obtain rfl : ad171 = ad173 := (by injection e173)
                  replace hx173_0 := (HB.out.cell (World.block_lt_of_cell? w _ hx173_0)).trans hx173_0
                  replace hx173_1 := (HB.out.cell (World.block_lt_of_cell? w _ hx173_1)).trans hx173_1
                  replace p173 := eq_true p173
                  replace q173 := eq_true q173
                  go_wp2
                  repeat (go_quiet (fail); try go_wp2)
                  go_ret
                  exact ⟨by first | rfl | (simp [errW_none, errW_some] <;> rfl) | (simp [*, errW_none, errW_some] <;> rfl), by repeat (first | (with_reducible first | exact HB.out | apply below_alloc | apply pw_below_drewN | apply below_drew1 | refine below_set ?_ GE166.out) | exact HB.out)⟩
                · rw [if_neg c24] at H
                  have c24b0 : decide (((rd_T25 l0 x9_1).f1) < t164) = false := decide_eq_false c24
                  clear c24
                  by_cases c26 : ((rd_T25 l0 x9_1).f1) = t164
                  · rw [if_pos c26] at H
                    have c26b0 : (((rd_T25 l0 x9_1).f1) == t164) = true := beq_iff_eq.mpr c26
                    have c26b1 : (((rd_T25 l0 x9_1).f1) != t164) = false := bne_eq_false_iff_eq.mpr c26
                    clear c26
                    by_cases c27 : ((rd_T25 l0 x9_1).f0) < t163
                    · rw [if_pos c27] at H
                      have c27b0 : decide (((rd_T25 l0 x9_1).f0) < t163) = true := decide_eq_true c27
                      clear c27
                      obtain rfl := Option.some.inj H
                      have p171 : 0 ≤ (x9_1 : Int) := of_decide_eq_true (by first | (with_reducible assumption) | assumption)
                      have q171 : x9_1 < (l0.length : Int) := of_decide_eq_true (by first | (with_reducible assumption) | assumption)
                      obtain ⟨ad171, e171, hx171_0, hx171_1⟩ := at_T25 HR0.out x9_1 p171 q171
                      cases e171
                      replace hx171_0 := (HB.out.cell (World.block_lt_of_cell? w _ hx171_0)).trans hx171_0
                      replace hx171_1 := (HB.out.cell (World.block_lt_of_cell? w _ hx171_1)).trans hx171_1
                      replace p171 := eq_true p171
                      replace q171 := eq_true q171
                      have hcz28_0 : wr.cell? ⟨gb166, 0, none⟩ = some (.int .i64 t163) := (blk_cell BK166.out 0).trans rfl
                      have hcz28_1 : wr.cell? ⟨gb166, 1, none⟩ = some (.int .i64 t164) := (blk_cell BK166.out 1).trans rfl
                      have hfz28_0 := blk_frozen BK166.out 0
                      have hfz28_1 := blk_frozen BK166.out 1
                      have p172 : 0 ≤ (x9_1 : Int) := of_decide_eq_true (by first | (with_reducible assumption) | assumption)
                      have q172 : x9_1 < (l0.length : Int) := of_decide_eq_true (by first | (with_reducible assumption) | assumption)
                      obtain ⟨ad172, e172, hx172_0, hx172_1⟩ := at_T25 HR0.out x9_1 p172 q172
                      obtain rfl : ad171 = ad172 := (by injection e172)
                      replace hx172_0 := (HB.out.cell (World.block_lt_of_cell? w _ hx172_0)).trans hx172_0
                      replace hx172_1 := (HB.out.cell (World.block_lt_of_cell? w _ hx172_1)).trans hx172_1
                      replace p172 := eq_true p172
                      replace q172 := eq_true q172
                      have p173 : 0 ≤ (x9_1 : Int) := of_decide_eq_true (by first | (with_reducible assumption) | assumption)
                      have q173 : x9_1 < (l0.length : Int) := of_decide_eq_true (by first | (with_reducible assumption) | assumption)
                      obtain ⟨ad173, e173, hx173_0, hx173_1⟩ := at_T25 HR0.out x9_1 p173 q173
                      obtain rfl : ad171 = ad173 := (by injection e173)
                      replace hx173_0 := (HB.out.cell (World.block_lt_of_cell? w _ hx173_0)).trans hx173_0
                      replace hx173_1 := (HB.out.cell (World.block_lt_of_cell? w _ hx173_1)).trans hx173_1
                      replace p173 := eq_true p173
                      replace q173 := eq_true q173
                      have p174 : 0 ≤ (x9_1 : Int) := of_decide_eq_true (by first | (with_reducible assumption) | assumption)
                      have q174 : x9_1 < (l0.length : Int) := of_decide_eq_true (by first | (with_reducible assumption) | assumption)
                      obtain ⟨ad174, e174, hx174_0, hx174_1⟩ := at_T25 HR0.out x9_1 p174 q174
                      obtain rfl : ad171 = ad174 := (by injection e174)
                      replace hx174_0 := (HB.out.cell (World.block_lt_of_cell? w _ hx174_0)).trans hx174_0
                      replace hx174_1 := (HB.out.cell (World.block_lt_of_cell? w _ hx174_1)).trans hx174_1
                      replace p174 := eq_true p174
                      replace q174 := eq_true q174
                      have p175 : 0 ≤ (x9_1 : Int) := of_decide_eq_true (by first | (with_reducible assumption) | assumption)
                      have q175 : x9_1 < (l0.length : Int) := of_decide_eq_true (by first | (with_reducible assumption) | assumption)
                      obtain ⟨ad175, e175, hx175_0, hx175_1⟩ := at_T25 HR0.out x9_1 p175 q175
                      obtain rfl : ad171 = ad175 := (by injection e175)
                      replace hx175_0 := (HB.out.cell (World.block_lt_of_cell? w _ hx175_0)).trans hx175_0
                      replace hx175_1 := (HB.out.cell (World.block_lt_of_cell? w _ hx175_1)).trans hx175_1
                      replace p175 := eq_true p175
                      replace q175 := eq_true q175
                      go_wp2
                      repeat (go_quiet (fail); try go_wp2)
                      go_ret
                      exact ⟨by first | rfl | (simp [errW_none, errW_some] <;> rfl) | (simp [*, errW_none, errW_some] <;> rfl), by repeat (first | (with_reducible first | exact HB.out | apply below_alloc | apply pw_below_drewN | apply below_drew1 | refine below_set ?_ GE166.out) | exact HB.out)⟩
                    · rw [if_neg c27] at H
                      have c27b0 : decide (((rd_T25 l0 x9_1).f0) < t163) = false := decide_eq_false c27
                      clear c27
                      have H' := Aside0.mk H
                      clear H
                      have p171 : 0 ≤ (x9_1 : Int) := of_decide_eq_true (by first | (with_reducible assumption) | assumption)
                      have q171 : x9_1 < (l0.length : Int) := of_decide_eq_true (by first | (with_reducible assumption) | assumption)
                      obtain ⟨ad171, e171, hx171_0, hx171_1⟩ := at_T25 HR0.out x9_1 p171 q171
                      cases e171
                      replace hx171_0 := (HB.out.cell (World.block_lt_of_cell? w _ hx171_0)).trans hx171_0
                      replace hx171_1 := (HB.out.cell (World.block_lt_of_cell? w _ hx171_1)).trans hx171_1
                      replace p171 := eq_true p171
                      replace q171 := eq_true q171
                      have hcz29_0 : wr.cell? ⟨gb166, 0, none⟩ = some (.int .i64 t163) := (blk_cell BK166.out 0).trans rfl
                      have hcz29_1 : wr.cell? ⟨gb166, 1, none⟩ = some (.int .i64 t164) := (blk_cell BK166.out 1).trans rfl
                      have hfz29_0 := blk_frozen BK166.out 0
                      have hfz29_1 := blk_frozen BK166.out 1
                      have p172 : 0 ≤ (x9_1 : Int) := of_decide_eq_true (by first | (with_reducible assumption) | assumption)
                      have q172 : x9_1 < (l0.length : Int) := of_decide_eq_true (by first | (with_reducible assumption) | assumption)
                      obtain ⟨ad172, e172, hx172_0, hx172_1⟩ := at_T25 HR0.out x9_1 p172 q172
                      obtain rfl : ad171 = ad172 := (by injection e172)
                      replace hx172_0 := (HB.out.cell (World.block_lt_of_cell? w _ hx172_0)).trans hx172_0
                      replace hx172_1 := (HB.out.cell (World.block_lt_of_cell? w _ hx172_1)).trans hx172_1
                      replace p172 := eq_true p172
                      replace q172 := eq_true q172
                      have p173 : 0 ≤ (x9_1 : Int) := of_decide_eq_true (by first | (with_reducible assumption) | assumption)
                      have q173 : x9_1 < (l0.length : Int) := of_decide_eq_true (by first | (with_reducible assumption) | assumption)
                      obtain ⟨ad173, e173, hx173_0, hx173_1⟩ := at_T25 HR0.out x9_1 p173 q173
                      obtain rfl : ad171 = ad173 := (by injection e173)
                      replace hx173_0 := (HB.out.cell (World.block_lt_of_cell? w _ hx173_0)).trans hx173_0
                      replace hx173_1 := (HB.out.cell (World.block_lt_of_cell? w _ hx173_1)).trans hx173_1
                      replace p173 := eq_true p173
                      replace q173 := eq_true q173
                      have p174 : 0 ≤ (x9_1 : Int) := of_decide_eq_true (by first | (with_reducible assumption) | assumption)
                      have q174 : x9_1 < (l0.length : Int) := of_decide_eq_true (by first | (with_reducible assumption) | assumption)
                      obtain ⟨ad174, e174, hx174_0, hx174_1⟩ := at_T25 HR0.out x9_1 p174 q174
                      obtain rfl : ad171 = ad174 := (by injection e174)
                      replace hx174_0 := (HB.out.cell (World.block_lt_of_cell? w _ hx174_0)).trans hx174_0
                      replace hx174_1 := (HB.out.cell (World.block_lt_of_cell? w _ hx174_1)).trans hx174_1
                      replace p174 := eq_true p174
                      replace q174 := eq_true q174
                      have p175 : 0 ≤ (x9_1 : Int) := of_decide_eq_true (by first | (with_reducible assumption) | assumption)
                      have q175 : x9_1 < (l0.length : Int) := of_decide_eq_true (by first | (with_reducible assumption) | assumption)
                      obtain ⟨ad175, e175, hx175_0, hx175_1⟩ := at_T25 HR0.out x9_1 p175 q175
                      obtain rfl : ad171 = ad175 := (by injection e175)
                      replace hx175_0 := (HB.out.cell (World.block_lt_of_cell? w _ hx175_0)).trans hx175_0
                      replace hx175_1 := (HB.out.cell (World.block_lt_of_cell? w _ hx175_1)).trans hx175_1
                      replace p175 := eq_true p175
                      replace q175 := eq_true q175
                      go_wp2
                      repeat (go_quiet (fail); try go_wp2)
                      go_roundg k1
                      case measure => have := HK1.out; omega
                      case rel => exact ⟨((((rd_T25 l0 x9_1).f0) == t163 && (((rd_T25 l0 x9_1).f1) == t164))), (wrap64 (x9_1 + 1)), (by first | rfl | (simp; done) | (simp [*]; done)), (by first | rfl | (simp; done) | (simp [*]; done)), H', ⟨by have := HK1.out; omega⟩, ⟨by (with_reducible repeat (first | refine blk_drewN ?_ _ | refine blk_drew ?_ | refine blk_alloc ?_ _)); exact BK166.out⟩, ⟨by repeat (first | (with_reducible first | exact HB.out | apply below_alloc | apply pw_below_drewN | apply below_drew1 | refine below_set ?_ GE166.out) | exact HB.out)⟩⟩
                  · rw [if_neg c26] at H
                    have c26b0 : (((rd_T25 l0 x9_1).f1) == t164) = false := beq_eq_false_iff_ne.mpr c26
                    have c26b1 : (((rd_T25 l0 x9_1).f1) != t164) = true := bne_iff_ne.mpr c26
                    have H' := Aside0.mk H
                    clear H
                    have p171 : 0 ≤ (x9_1 : Int) := of_decide_eq_true (by first | (with_reducible assumption) | assumption)
                    have q171 : x9_1 < (l0.length : Int) := of_decide_eq_true (by first | (with_reducible assumption) | assumption)
                    obtain ⟨ad171, e171, hx171_0, hx171_1⟩ := at_T25 HR0.out x9_1 p171 q171
                    cases e171
                    replace hx171_0 := (HB.out.cell (World.block_lt_of_cell? w _ hx171_0)).trans hx171_0
                    replace hx171_1 := (HB.out.cell (World.block_lt_of_cell? w _ hx171_1)).trans hx171_1
                    replace p171 := eq_true p171
                    replace q171 := eq_true q171
                    have hcz30_0 : wr.cell? ⟨gb166, 0, none⟩ = some (.int .i64 t163) := (blk_cell BK166.out 0).trans rfl
                    have hcz30_1 : wr.cell? ⟨gb166, 1, none⟩ = some (.int .i64 t164) := (blk_cell BK166.out 1).trans rfl
                    have hfz30_0 := blk_frozen BK166.out 0
                    have hfz30_1 := blk_frozen BK166.out 1
                    have p172 : 0 ≤ (x9_1 : Int) := of_decide_eq_true (by first | (with_reducible assumption) | assumption)
                    have q172 : x9_1 < (l0.length : Int) := of_decide_eq_true (by first | (with_reducible assumption) | assumption)
                    obtain ⟨ad172, e172, hx172_0, hx172_1⟩ := at_T25 HR0.out x9_1 p172 q172
                    obtain rfl : ad171 = ad172 := (by injection e172)
                    replace hx172_0 := (HB.out.cell (World.block_lt_of_cell? w _ hx172_0)).trans hx172_0
                    replace hx172_1 := (HB.out.cell (World.block_lt_of_cell? w _ hx172_1)).trans hx172_1
                    replace p172 := eq_true p172
                    replace q172 := eq_true q172
                    have p173 : 0 ≤ (x9_1 : Int) := of_decide_eq_true (by first | (with_reducible assumption) | assumption)
                    have q173 : x9_1 < (l0.length : Int) := of_decide_eq_true (by first | (with_reducible assumption) | assumption)
                    obtain ⟨ad173, e173, hx173_0, hx173_1⟩ := at_T25 HR0.out x9_1 p173 q173
                    obtain rfl : ad171 = ad173 := (by injection e173)
                    replace hx173_0 := (HB.out.cell (World.block_lt_of_cell? w _ hx173_0)).trans hx173_0
                    replace hx173_1 := (HB.out.cell (World.block_lt_of_cell? w _ hx173_1)).trans hx173_1
                    replace p173 := eq_true p173
                    replace q173 := eq_true q173
                    have p174 : 0 ≤ (x9_1 : Int) := of_decide_eq_true (by first | (with_reducible assumption) | assumption)
                    have q174 : x9_1 < (l0.length : Int) := of_decide_eq_true (by first | (with_reducible assumption) | assumption)
                    obtain ⟨ad174, e174, hx174_0, hx174_1⟩ := at_T25 HR0.out x9_1 p174 q174
                    obtain rfl : ad171 = ad174 := (by injection e174)
                    replace hx174_0 := (HB.out.cell (World.block_lt_of_cell? w _ hx174_0)).trans hx174_0
                    replace hx174_1 := (HB.out.cell (World.block_lt_of_cell? w _ hx174_1)).trans hx174_1
                    replace p174 := eq_true p174
                    replace q174 := eq_true q174
                    go_wp2
                    repeat (go_quiet (fail); try go_wp2)
                    go_roundg k1
                    case measure => have := HK1.out; omega
                    case rel => exact ⟨((((rd_T25 l0 x9_1).f0) == t163 && (((rd_T25 l0 x9_1).f1) == t164))), (wrap64 (x9_1 + 1)), (by first | rfl | (simp; done) | (simp [*]; done)), (by first | rfl | (simp; done) | (simp [*]; done)), H', ⟨by have := HK1.out; omega⟩, ⟨by (with_reducible repeat (first | refine blk_drewN ?_ _ | refine blk_drew ?_ | refine blk_alloc ?_ _)); exact BK166.out⟩, ⟨by repeat (first | (with_reducible first | exact HB.out | apply below_alloc | apply pw_below_drewN | apply below_drew1 | refine below_set ?_ GE166.out) | exact HB.out)⟩⟩
              · replace c23 := Bool.eq_false_iff.mpr c23
                subst c23
                have H1 : (some false) = some r := by rw [if_neg (show ¬ (false = true) by decide)] at H; exact H
                clear H
                have H := H1
                clear H1
                obtain rfl := Option.some.inj H
                have p171 : 0 ≤ (x9_1 : Int) := of_decide_eq_true (by first | (with_reducible assumption) | assumption)
                have q171 : x9_1 < (l0.length : Int) := of_decide_eq_true (by first | (with_reducible assumption) | assumption)
                obtain ⟨ad171, e171, hx171_0, hx171_1⟩ := at_T25 HR0.out x9_1 p171 q171
                cases e171
                replace hx171_0 := (HB.out.cell (World.block_lt_of_cell? w _ hx171_0)).trans hx171_0
                replace hx171_1 := (HB.out.cell (World.block_lt_of_cell? w _ hx171_1)).trans hx171_1
                replace p171 := eq_true p171
                replace q171 := eq_true q171
                have hcz31_0 : wr.cell? ⟨gb166, 0, none⟩ = some (.int .i64 t163) := (blk_cell BK166.out 0).trans rfl
                have hcz31_1 : wr.cell? ⟨gb166, 1, none⟩ = some (.int .i64 t164) := (blk_cell BK166.out 1).trans rfl
                have hfz31_0 := blk_frozen BK166.out 0
                have hfz31_1 := blk_frozen BK166.out 1
                have p172 : 0 ≤ (x9_1 : Int) := of_decide_eq_true (by first | (with_reducible assumption) | assumption)
                have q172 : x9_1 < (l0.length : Int) := of_decide_eq_true (by first | (with_reducible assumption) | assumption)
                obtain ⟨ad172, e172, hx172_0, hx172_1⟩ := at_T25 HR0.out x9_1 p172 q172
                obtain rfl : ad171 = ad172 := (by injection e172)
                replace hx172_0 := (HB.out.cell (World.block_lt_of_cell? w _ hx172_0)).trans hx172_0
                replace hx172_1 := (HB.out.cell (World.block_lt_of_cell? w _ hx172_1)).trans hx172_1
                replace p172 := eq_true p172
                replace q172 := eq_true q172
                go_wp2
                repeat (go_quiet (fail); try go_wp2)
                go_ret
                exact ⟨by first | rfl | (simp [errW_none, errW_some] <;> rfl) | (simp [*, errW_none, errW_some] <;> rfl), by repeat (first | (with_reducible first | exact HB.out | apply below_alloc | apply pw_below_drewN | apply below_drew1 | refine below_set ?_ GE166.out) | exact HB.out)⟩
            · rw [if_neg c22] at H
              have c22b0 : decide (a1 ≤ ((rd_T25 l0 x9_1).f1)) = false := decide_eq_false c22
              clear c22
              have H' := Aside0.mk H
              clear H
              have p171 : 0 ≤ (x9_1 : Int) := of_decide_eq_true (by first | (with_reducible assumption) | assumption)
              have q171 : x9_1 < (l0.length : Int) := of_decide_eq_true (by first | (with_reducible assumption) | assumption)
              obtain ⟨ad171, e171, hx171_0, hx171_1⟩ := at_T25 HR0.out x9_1 p171 q171
              cases e171
              replace hx171_0 := (HB.out.cell (World.block_lt_of_cell? w _ hx171_0)).trans hx171_0
              replace hx171_1 := (HB.out.cell (World.block_lt_of_cell? w _ hx171_1)).trans hx171_1
              replace p171 := eq_true p171
              replace q171 := eq_true q171
              have hcz32_0 : wr.cell? ⟨gb166, 0, none⟩ = some (.int .i64 t163) := (blk_cell BK166.out 0).trans rfl
              have hcz32_1 : wr.cell? ⟨gb166, 1, none⟩ = some (.int .i64 t164) := (blk_cell BK166.out 1).trans rfl
              have hfz32_0 := blk_frozen BK166.out 0
              have hfz32_1 := blk_frozen BK166.out 1
              have p172 : 0 ≤ (x9_1 : Int) := of_decide_eq_true (by first | (with_reducible assumption) | assumption)
              have q172 : x9_1 < (l0.length : Int) := of_decide_eq_true (by first | (with_reducible assumption) | assumption)
              obtain ⟨ad172, e172, hx172_0, hx172_1⟩ := at_T25 HR0.out x9_1 p172 q172
              obtain rfl : ad171 = ad172 := (by injection e172)
              replace hx172_0 := (HB.out.cell (World.block_lt_of_cell? w _ hx172_0)).trans hx172_0
              replace hx172_1 := (HB.out.cell (World.block_lt_of_cell? w _ hx172_1)).trans hx172_1
              replace p172 := eq_true p172
              replace q172 := eq_true q172
              go_wp2
              repeat (go_quiet (fail); try go_wp2)
              go_roundg k1
              case measure => have := HK1.out; omega
              case rel => exact ⟨((((rd_T25 l0 x9_1).f0) == t163 && (((rd_T25 l0 x9_1).f1) == t164))), (wrap64 (x9_1 + 1)), (by first | rfl | (simp; done) | (simp [*]; done)), (by first | rfl | (simp; done) | (simp [*]; done)), H', ⟨by have := HK1.out; omega⟩, ⟨by (with_reducible repeat (first | refine blk_drewN ?_ _ | refine blk_drew ?_ | refine blk_alloc ?_ _)); exact BK166.out⟩, ⟨by repeat (first | (with_reducible first | exact HB.out | apply below_alloc | apply pw_below_drewN | apply below_drew1 | refine below_set ?_ GE166.out) | exact HB.out)⟩⟩
          · rw [if_neg c21] at H
            exact absurd H (by simp)
      · rw [if_neg c9] at H
        have c9b0 : decide (x9_1 < (l0.length : Int)) = false := decide_eq_false c9
        clear c9
        by_cases c33 : t162 = true
        · subst c33
          have H1 : (if t165 = true then (if x8_1 = true then (if t164 ≥ a1 then (some true) else (some false)) else (some false)) else (some (t163 == 0 && (t164 == 0)))) = some r := by rw [if_pos rfl] at H; exact H
          clear H
          have H := H1
          clear H1
          by_cases c34 : t165 = true
          · subst c34
            have H1 : (if x8_1 = true then (if t164 ≥ a1 then (some true) else (some false)) else (some false)) = some r := by rw [if_pos rfl] at H; exact H
            clear H
            have H := H1
            clear H1
            by_cases c35 : x8_1 = true
            · subst c35
              have H1 : (if t164 ≥ a1 then (some true) else (some false)) = some r := by rw [if_pos rfl] at H; exact H
              clear H
              have H := H1
              clear H1
              by_cases c36 : t164 ≥ a1
              · rw [if_pos c36] at H
                have c36b0 : decide (a1 ≤ t164) = true := decide_eq_true c36
                clear c36
                obtain rfl := Option.some.inj H
                have hcz37_0 : wr.cell? ⟨gb166, 0, none⟩ = some (.int .i64 t163) := (blk_cell BK166.out 0).trans rfl
                have hcz37_1 : wr.cell? ⟨gb166, 1, none⟩ = some (.int .i64 t164) := (blk_cell BK166.out 1).trans rfl
                have hfz37_0 := blk_frozen BK166.out 0
                have hfz37_1 := blk_frozen BK166.out 1
                go_wp2
                repeat (go_quiet (fail); try go_wp2)
                go_ret
                exact ⟨by first | rfl | (simp [errW_none, errW_some] <;> rfl) | (simp [*, errW_none, errW_some] <;> rfl), by repeat (first | (with_reducible first | exact HB.out | apply below_alloc | apply pw_below_drewN | apply below_drew1 | refine below_set ?_ GE166.out) | exact HB.out)⟩
              · rw [if_neg c36] at H
                have c36b0 : decide (a1 ≤ t164) = false := decide_eq_false c36
                clear c36
                obtain rfl := Option.some.inj H
                have hcz38_0 : wr.cell? ⟨gb166, 0, none⟩ = some (.int .i64 t163) := (blk_cell BK166.out 0).trans rfl
                have hcz38_1 : wr.cell? ⟨gb166, 1, none⟩ = some (.int .i64 t164) := (blk_cell BK166.out 1).trans rfl
                have hfz38_0 := blk_frozen BK166.out 0
                have hfz38_1 := blk_frozen BK166.out 1
                go_wp2
                repeat (go_quiet (fail); try go_wp2)
                go_ret
                exact ⟨by first | rfl | (simp [errW_none, errW_some] <;> rfl) | (simp [*, errW_none, errW_some] <;> rfl), by repeat (first | (with_reducible first | exact HB.out | apply below_alloc | apply pw_below_drewN | apply below_drew1 | refine below_set ?_ GE166.out) | exact HB.out)⟩
            · replace c35 := Bool.eq_false_iff.mpr c35
              subst c35
              have H1 : (some false) = some r := by rw [if_neg (show ¬ (false = true) by decide)] at H; exact H
              clear H
              have H := H1
              clear H1
              obtain rfl := Option.some.inj H
              go_wp2
              repeat (go_quiet (fail); try go_wp2)
              go_ret
              exact ⟨by first | rfl | (simp [errW_none, errW_some] <;> rfl) | (simp [*, errW_none, errW_some] <;> rfl), by repeat (first | (with_reducible first | exact HB.out | apply below_alloc | apply pw_below_drewN | apply below_drew1 | refine below_set ?_ GE166.out) | exact HB.out)⟩
          · replace c34 := Bool.eq_false_iff.mpr c34
            subst c34
            have H1 : (some (t163 == 0 && (t164 == 0))) = some r := by rw [if_neg (show ¬ (false = true) by decide)] at H; exact H
            clear H
            have H := H1
            clear H1
            obtain rfl := Option.some.inj H
            have hcz39_0 : wr.cell? ⟨gb166, 0, none⟩ = some (.int .i64 t163) := (blk_cell BK166.out 0).trans rfl
            have hcz39_1 : wr.cell? ⟨gb166, 1, none⟩ = some (.int .i64 t164) := (blk_cell BK166.out 1).trans rfl
            have hfz39_0 := blk_frozen BK166.out 0
            have hfz39_1 := blk_frozen BK166.out 1
            go_wp2
            repeat (go_quiet (fail); try go_wp2)
            go_ret
            exact ⟨by first | rfl | (simp [errW_none, errW_some] <;> rfl) | (simp [*, errW_none, errW_some] <;> rfl), by repeat (first | (with_reducible first | exact HB.out | apply below_alloc | apply pw_below_drewN | apply below_drew1 | refine below_set ?_ GE166.out) | exact HB.out)⟩
        · replace c33 := Bool.eq_false_iff.mpr c33
          subst c33
          have H1 : (some false) = some r := by rw [if_neg (show ¬ (false = true) by decide)] at H; exact H
          clear H
          have H := H1
          clear H1
          obtain rfl := Option.some.inj H
          go_wp2
          repeat (go_quiet (fail); try go_wp2)
          go_ret
          exact ⟨by first | rfl | (simp [errW_none, errW_some] <;> rfl) | (simp [*, errW_none, errW_some] <;> rfl), by repeat (first | (with_reducible first | exact HB.out | apply below_alloc | apply pw_below_drewN | apply below_drew1 | refine below_set ?_ GE166.out) | exact HB.out)⟩

/-! ### joistref10_Need: function 13 -/
mutual
def joistref10_Need.j0 : Nat → Int → Bool → Option (Int × Int)
  | 0, _, _ => none
  | k + 1, x0, x10 => if x10 = true then (some (0, 1)) else (joistref10_Need.l0 k (wrap64 (2 + (wrap64 (Int.tdiv (wrap64 (x0 + 7)) 8)))))
def joistref10_Need.l0 : Nat → Int → Option (Int × Int)
  | 0, _ => none
  | k + 1, x4 => if (Int.tmod x4 4) = 0 then (some (x4, 0)) else (joistref10_Need.l0 k (wrap64 (x4 + 1)))
end
def joistref10_Need.f (k : Nat) (a0 : Int) : Option (Int × Int) := if a0 < 1 then (joistref10_Need.j0 k a0 true) else (joistref10_Need.j0 k a0 (decide (a0 > 2048)))
theorem joistref10_Need.mono_l : ∀ k, (∀ y0 y1, LeO (joistref10_Need.j0 k y0 y1) (joistref10_Need.j0 (k + 1) y0 y1)) ∧ (∀ y0, LeO (joistref10_Need.l0 k y0) (joistref10_Need.l0 (k + 1) y0))
  | 0 => ⟨fun _ _ r h => by simp [joistref10_Need.j0] at h, fun _ r h => by simp [joistref10_Need.l0] at h⟩
  | k + 1 => by
    obtain ⟨ih0, ih1⟩ := joistref10_Need.mono_l k
    refine ⟨?_, ?_⟩
    · intro y0 y1
      unfold joistref10_Need.j0
      repeat' first
      | (with_reducible exact ih0 _ _)
      | (with_reducible exact ih1 _)
      | (with_reducible exact LeO.refl _)
      | (with_reducible exact LeO.none _)
      | (with_reducible refine LeO.ite ?_ ?_)
      | (with_reducible refine LeO.bind ?_ (fun _ => ?_))
      | exact ih0 _ _
      | exact ih1 _
      | exact LeO.none _
      | refine LeO.ite ?_ ?_
      | refine LeO.bind ?_ (fun _ => ?_)
    · intro y0
      unfold joistref10_Need.l0
      repeat' first
      | (with_reducible exact ih0 _ _)
      | (with_reducible exact ih1 _)
      | (with_reducible exact LeO.refl _)
      | (with_reducible exact LeO.none _)
      | (with_reducible refine LeO.ite ?_ ?_)
      | (with_reducible refine LeO.bind ?_ (fun _ => ?_))
      | exact ih0 _ _
      | exact ih1 _
      | exact LeO.none _
      | refine LeO.ite ?_ ?_
      | refine LeO.bind ?_ (fun _ => ?_)
theorem joistref10_Need.mono : ∀ a0 k, LeO (joistref10_Need.f k a0) (joistref10_Need.f (k + 1) a0) := by
  intro a0 k
  obtain ⟨ih0, ih1⟩ := joistref10_Need.mono_l k
  unfold joistref10_Need.f
  repeat' first
      | (with_reducible exact ih0 _ _)
      | (with_reducible exact ih1 _)
      | (with_reducible exact LeO.refl _)
      | (with_reducible exact LeO.none _)
      | (with_reducible refine LeO.ite ?_ ?_)
      | (with_reducible refine LeO.bind ?_ (fun _ => ?_))
      | exact ih0 _ _
      | exact ih1 _
      | exact LeO.none _
      | refine LeO.ite ?_ ?_
      | refine LeO.bind ?_ (fun _ => ?_)
set_option maxHeartbeats 8000000 in
set_option maxRecDepth 100000 in
theorem joistref10_Need.calls (k : Nat) (a0 : Int) (r1 : Int) (r2 : Int) (w : World) (h : joistref10_Need.f k a0 = some (r1, r2)) :
    Calls Try.prog 13 #[.int .i64 a0] w fun e w' => e = .returned (.tuple #[.int .i64 r1, .int .i64 r2]) ∧ Drawn0 w w' := by
  have H : (if a0 < 1 then (joistref10_Need.j0 k a0 true) else (joistref10_Need.j0 k a0 (decide (a0 > 2048)))) = some (r1, r2) := h
  clear h
  have HC2 := Aside0.mk H
  clear H
  go_enter Try.func13, Try.ntmps13
  go_upto_region 1 with (fail)
  go_cut [10] (fun v10 wc => ∃ (kq : Nat) (x10_1 : Bool), v10 = .bool x10_1 ∧ Aside0 (joistref10_Need.j0 kq a0 x10_1 = some (r1, r2)) ∧ Aside0 (kq ≤ k) ∧ Drawn0 w wc)
  case first =>
    have H := HC2.out
    clear HC2
    by_cases c3 : a0 < 1
    · rw [if_pos c3] at H
      have c3b0 : decide (a0 < 1) = true := decide_eq_true c3
      clear c3
      (first | rw [c3b0] | (simp only [i64_w, i32_w]; rw [c3b0]) | skip)
      have H' := Aside0.mk H
      clear H
      go_wp2
      go_meet
      case rel => exact ⟨_, (true), (by first | rfl | (simp; done) | (simp [*]; done)), H', ⟨by first | omega | exact Nat.le_refl _⟩, by repeat (first | exact Drawn0.refl _ | apply Drawn0.step)⟩
    · rw [if_neg c3] at H
      have c3b0 : decide (a0 < 1) = false := decide_eq_false c3
      clear c3
      (first | rw [c3b0] | (simp only [i64_w, i32_w]; rw [c3b0]) | skip)
      have H' := Aside0.mk H
      clear H
      go_wp2
      go_meet
      case rel => exact ⟨_, (decide (a0 > 2048)), (by first | rfl | (simp; done) | (simp [*]; done)), H', ⟨by first | omega | exact Nat.le_refl _⟩, by repeat (first | exact Drawn0.refl _ | apply Drawn0.step)⟩
  case rest =>
    clear HC2
    try clear c1
    try clear p2
    try clear c3
    try clear c3b0
    obtain ⟨kq, x10_1, rfl, HA, HJ1, ⟨mc1, rfl⟩⟩ := hcut
    cases kq with
    | zero => exact absurd HA.out (by simp [joistref10_Need.j0])
    | succ kj1 =>
      have H := HA.out
      clear HA
      simp only [joistref10_Need.j0] at H
      by_cases c4 : x10_1 = true
      · subst c4
        have H1 : (some (0, 1)) = some (r1, r2) := by rw [if_pos rfl] at H; exact H
        clear H
        have H := H1
        clear H1
        simp only [Option.some.injEq, Prod.mk.injEq] at H
        obtain ⟨rfl, rfl⟩ := H
        go_wp2
        go_ret2
        exact ⟨by first | rfl | (simp; done) | (simp [*]; done), by repeat (first | exact Drawn0.refl _ | apply Drawn0.step)⟩
      · replace c4 := Bool.eq_false_iff.mpr c4
        subst c4
        have H1 : (joistref10_Need.l0 kj1 (wrap64 (2 + (wrap64 (Int.tdiv (wrap64 (a0 + 7)) 8))))) = some (r1, r2) := by rw [if_neg (show ¬ (false = true) by decide)] at H; exact H
        clear H
        have H := H1
        clear H1
        have H' := Aside0.mk H
        clear H
        go_wp2
        go_loopg [4] kj1 (fun kq v4 w' => ∃ (x4_2 : Int), v4 = .int .i64 x4_2 ∧ Aside0 (joistref10_Need.l0 kq x4_2 = some (r1, r2)) ∧ Aside0 (kq ≤ kj1) ∧ Drawn0 w w')
        case atStart => exact ⟨(wrap64 (2 + (wrap64 (Int.tdiv (wrap64 (a0 + 7)) 8)))), (by first | rfl | (simp; done) | (simp [*]; done)), H', ⟨Nat.le_refl _⟩, by repeat (first | exact Drawn0.refl _ | apply Drawn0.step)⟩
        case round =>
          clear H'
          try clear c1
          try clear p2
          try clear c3
          try clear c3b0
          try clear c4
          try clear p2
          obtain ⟨x4_2, rfl, HA, HK2, ⟨m2, rfl⟩⟩ := hrel
          cases gk with
          | zero => exact absurd HA.out (by simp [joistref10_Need.l0])
          | succ k2 =>
            have H := HA.out
            clear HA
            simp only [joistref10_Need.l0] at H
            by_cases c5 : (Int.tmod x4_2 4) = 0
            · rw [if_pos c5] at H
              have c5b0 : ((Int.tmod x4_2 4) == 0) = true := beq_iff_eq.mpr c5
              have c5b1 : ((Int.tmod x4_2 4) != 0) = false := bne_eq_false_iff_eq.mpr c5
              clear c5
              simp only [Option.some.injEq, Prod.mk.injEq] at H
              obtain ⟨rfl, rfl⟩ := H
              go_wp2
              go_ret2
              exact ⟨by first | rfl | (simp; done) | (simp [*]; done), by repeat (first | exact Drawn0.refl _ | apply Drawn0.step)⟩
            · rw [if_neg c5] at H
              have c5b0 : ((Int.tmod x4_2 4) == 0) = false := beq_eq_false_iff_ne.mpr c5
              have c5b1 : ((Int.tmod x4_2 4) != 0) = true := bne_iff_ne.mpr c5
              have H' := Aside0.mk H
              clear H
              go_wp2
              go_roundg k2
              case measure => have := HJ1.out; have := HK2.out; omega
              case rel => exact ⟨(wrap64 (x4_2 + 1)), (by first | rfl | (simp; done) | (simp [*]; done)), H', ⟨by have := HJ1.out; have := HK2.out; omega⟩, by repeat (first | exact Drawn0.refl _ | apply Drawn0.step)⟩

end Go.Proofs.Ytcjalhlejneddaa.P
