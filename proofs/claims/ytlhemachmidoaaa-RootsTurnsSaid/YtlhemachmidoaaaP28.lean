-- Printed by wip/tools/pp.py.
import Derived.Test.YtlhemachmidoaaaP0
import Derived.Test.YtlhemachmidoaaaP12
import Derived.Test.YtlhemachmidoaaaP13
import Derived.Test.YtlhemachmidoaaaP14
import Derived.Test.YtlhemachmidoaaaP23
import Derived.Test.YtlhemachmidoaaaP25
import Derived.Test.YtlhemachmidoaaaP26
import Derived.Test.YtlhemachmidoaaaP27
namespace Go.Proofs.Ytlhemachmidoaaa.P
open Go.RowKit Go.Proofs.YtlhemachmidoaaaW.PrintWords Go.Proofs.YtlhemachmidoaaaW.PrintLast Go.Proofs.YtlhemachmidoaaaW.PrintMore
attribute [local go_sem] max2_int min2_int max_two min_two max_three min_three max_four min_four   -- for this text's walks alone
set_option linter.unusedVariables false
set_option linter.unusedSimpArgs false

/-! ### joistlaw09_RootsTurns: function 4 -/
mutual
def joistlaw09_RootsTurns.j0 : Nat → List (S37) → ByteArray → Bool → Bool → Int → Int → Option (Bool)
  | 0, _, _, _, _, _, _ => none
  | k + 1, x0, x1, x7, x31, x249000, x249001 => if x31 = true then (some x7) else ((some (([] : List (S37)) : List (S37))).bind fun y251 => (if y251.length + x0.length < 4398046511104 then ((some (y251 ++ x0 : List (S37))).bind fun y254 => ((roots_Set.f k y254 x1 x249000 x249001).bind fun bt257 => ((roots_Drop.f k y254 x1).bind fun bt261 => ((joistref09_Set.f k x0 x1 x249000 x249001).bind fun bt265 => ((joistref09_Drop.f k x0 x1).bind fun bt269 => ((joistref09_Same.f k y254 x0).bind fun t273 => ((joistref09_Same.f k bt257.1 bt265.1).bind fun t274 => (if t274 = true then ((joistref09_Same.f k bt261.1 bt269.1).bind fun t275 => (joistlaw09_RootsTurns.j1 k x0 x7 y254 bt257.1 bt257.2 bt261.1 bt261.2 bt265.2 bt269.2 t273 t275)) else (joistlaw09_RootsTurns.j1 k x0 x7 y254 bt257.1 bt257.2 bt261.1 bt261.2 bt265.2 bt269.2 t273 false))))))))) else (none)))
def joistlaw09_RootsTurns.j1 : Nat → List (S37) → Bool → List (S37) → List (S37) → Int → List (S37) → Int → Int → Int → Bool → Bool → Option (Bool)
  | 0, _, _, _, _, _, _, _, _, _, _, _ => none
  | k + 1, x0, x7, x9, x10, x11, x12, x13, x15, x17, x18, x19 => joistlaw09_RootsTurns.l0 k x0 x7 x9 x10 x11 x12 x13 x15 x17 x18 x19 0
def joistlaw09_RootsTurns.l0 : Nat → List (S37) → Bool → List (S37) → List (S37) → Int → List (S37) → Int → Int → Int → Bool → Bool → Int → Option (Bool)
  | 0, _, _, _, _, _, _, _, _, _, _, _, _ => none
  | k + 1, x0, x7, x9, x10, x11, x12, x13, x15, x17, x18, x19, x20 => if x20 < (x10.length : Int) then (if 0 ≤ x20 then (joistlaw09_RootsTurns.l0 k x0 x7 x9 (x10.set (x20 : Int).toNat (⟨(⟨#[115, 112, 111, 105, 108, 116]⟩ : ByteArray), (⟨(rd_T37 x10 x20).f1.f0, (rd_T37 x10 x20).f1.f1⟩ : S29)⟩ : S37)) x11 x12 x13 x15 x17 x18 x19 (wrap64 (x20 + 1))) else (none)) else (joistlaw09_RootsTurns.l1 k x0 x7 x9 x11 x12 x13 x15 x17 x18 x19 0)
def joistlaw09_RootsTurns.l1 : Nat → List (S37) → Bool → List (S37) → Int → List (S37) → Int → Int → Int → Bool → Bool → Int → Option (Bool)
  | 0, _, _, _, _, _, _, _, _, _, _, _ => none
  | k + 1, x0, x7, x9, x11, x12, x13, x15, x17, x18, x19, x21 => if x21 < (x12.length : Int) then (if 0 ≤ x21 then (joistlaw09_RootsTurns.l1 k x0 x7 x9 x11 (x12.set (x21 : Int).toNat (⟨(⟨#[115, 112, 111, 105, 108, 116]⟩ : ByteArray), (⟨(rd_T37 x12 x21).f1.f0, (rd_T37 x12 x21).f1.f1⟩ : S29)⟩ : S37)) x13 x15 x17 x18 x19 (wrap64 (x21 + 1))) else (none)) else (if x7 = true then (if x18 = true then (if x19 = true then ((joistref09_Same.f k x9 x0).bind fun t278 => (if t278 = true then (if x11 = x15 then (some (x13 == x17)) else (some false)) else (some false))) else (some false)) else (some false)) else (some false))
end
def joistlaw09_RootsTurns.f (k : Nat) (l0 : List (S37)) (a1 : ByteArray) (a2_0 : Int) (a2_1 : Int) : Option (Bool) := (joistlaw09_small.f k).bind fun t249 => ((joistlaw09_few.f k l0).bind fun t250 => (if t250 = true then (joistlaw09_RootsTurns.j0 k l0 a1 t249 (decide ((a1.size : Int) > 1024)) a2_0 a2_1) else (joistlaw09_RootsTurns.j0 k l0 a1 t249 true a2_0 a2_1)))
theorem joistlaw09_RootsTurns.mono_l : ∀ k, (∀ y0 y1 y2 y3 y4 y5, LeO (joistlaw09_RootsTurns.j0 k y0 y1 y2 y3 y4 y5) (joistlaw09_RootsTurns.j0 (k + 1) y0 y1 y2 y3 y4 y5)) ∧ (∀ y0 y1 y2 y3 y4 y5 y6 y7 y8 y9 y10, LeO (joistlaw09_RootsTurns.j1 k y0 y1 y2 y3 y4 y5 y6 y7 y8 y9 y10) (joistlaw09_RootsTurns.j1 (k + 1) y0 y1 y2 y3 y4 y5 y6 y7 y8 y9 y10)) ∧ (∀ y0 y1 y2 y3 y4 y5 y6 y7 y8 y9 y10 y11, LeO (joistlaw09_RootsTurns.l0 k y0 y1 y2 y3 y4 y5 y6 y7 y8 y9 y10 y11) (joistlaw09_RootsTurns.l0 (k + 1) y0 y1 y2 y3 y4 y5 y6 y7 y8 y9 y10 y11)) ∧ (∀ y0 y1 y2 y3 y4 y5 y6 y7 y8 y9 y10, LeO (joistlaw09_RootsTurns.l1 k y0 y1 y2 y3 y4 y5 y6 y7 y8 y9 y10) (joistlaw09_RootsTurns.l1 (k + 1) y0 y1 y2 y3 y4 y5 y6 y7 y8 y9 y10))
  | 0 => ⟨fun _ _ _ _ _ _ r h => by simp [joistlaw09_RootsTurns.j0] at h, fun _ _ _ _ _ _ _ _ _ _ _ r h => by simp [joistlaw09_RootsTurns.j1] at h, fun _ _ _ _ _ _ _ _ _ _ _ _ r h => by simp [joistlaw09_RootsTurns.l0] at h, fun _ _ _ _ _ _ _ _ _ _ _ r h => by simp [joistlaw09_RootsTurns.l1] at h⟩
  | k + 1 => by
    obtain ⟨ih0, ih1, ih2, ih3⟩ := joistlaw09_RootsTurns.mono_l k
    refine ⟨?_, ?_, ?_, ?_⟩
    · intro y0 y1 y2 y3 y4 y5
      unfold joistlaw09_RootsTurns.j0
      repeat' first
      | (with_reducible exact ih0 _ _ _ _ _ _)
      | (with_reducible exact ih1 _ _ _ _ _ _ _ _ _ _ _)
      | (with_reducible exact ih2 _ _ _ _ _ _ _ _ _ _ _ _)
      | (with_reducible exact ih3 _ _ _ _ _ _ _ _ _ _ _)
      | (with_reducible exact joistlaw09_few.mono _ _)
      | (with_reducible exact joistlaw09_small.mono _)
      | (with_reducible exact joistref09_Drop.mono _ _ _)
      | (with_reducible exact joistref09_Same.mono _ _ _)
      | (with_reducible exact joistref09_Set.mono _ _ _ _ _)
      | (with_reducible exact roots_Drop.mono _ _ _)
      | (with_reducible exact roots_Set.mono _ _ _ _ _)
      | (with_reducible exact LeO.refl _)
      | (with_reducible exact LeO.none _)
      | (with_reducible refine LeO.ite ?_ ?_)
      | (with_reducible refine LeO.bind ?_ (fun _ => ?_))
      | exact ih0 _ _ _ _ _ _
      | exact ih1 _ _ _ _ _ _ _ _ _ _ _
      | exact ih2 _ _ _ _ _ _ _ _ _ _ _ _
      | exact ih3 _ _ _ _ _ _ _ _ _ _ _
      | exact joistlaw09_few.mono _ _
      | exact joistlaw09_small.mono _
      | exact joistref09_Drop.mono _ _ _
      | exact joistref09_Same.mono _ _ _
      | exact joistref09_Set.mono _ _ _ _ _
      | exact roots_Drop.mono _ _ _
      | exact roots_Set.mono _ _ _ _ _
      | exact LeO.none _
      | refine LeO.ite ?_ ?_
      | refine LeO.bind ?_ (fun _ => ?_)
    · intro y0 y1 y2 y3 y4 y5 y6 y7 y8 y9 y10
      unfold joistlaw09_RootsTurns.j1
      repeat' first
      | (with_reducible exact ih0 _ _ _ _ _ _)
      | (with_reducible exact ih1 _ _ _ _ _ _ _ _ _ _ _)
      | (with_reducible exact ih2 _ _ _ _ _ _ _ _ _ _ _ _)
      | (with_reducible exact ih3 _ _ _ _ _ _ _ _ _ _ _)
      | (with_reducible exact joistlaw09_few.mono _ _)
      | (with_reducible exact joistlaw09_small.mono _)
      | (with_reducible exact joistref09_Drop.mono _ _ _)
      | (with_reducible exact joistref09_Same.mono _ _ _)
      | (with_reducible exact joistref09_Set.mono _ _ _ _ _)
      | (with_reducible exact roots_Drop.mono _ _ _)
      | (with_reducible exact roots_Set.mono _ _ _ _ _)
      | (with_reducible exact LeO.refl _)
      | (with_reducible exact LeO.none _)
      | (with_reducible refine LeO.ite ?_ ?_)
      | (with_reducible refine LeO.bind ?_ (fun _ => ?_))
      | exact ih0 _ _ _ _ _ _
      | exact ih1 _ _ _ _ _ _ _ _ _ _ _
      | exact ih2 _ _ _ _ _ _ _ _ _ _ _ _
      | exact ih3 _ _ _ _ _ _ _ _ _ _ _
      | exact joistlaw09_few.mono _ _
      | exact joistlaw09_small.mono _
      | exact joistref09_Drop.mono _ _ _
      | exact joistref09_Same.mono _ _ _
      | exact joistref09_Set.mono _ _ _ _ _
      | exact roots_Drop.mono _ _ _
      | exact roots_Set.mono _ _ _ _ _
      | exact LeO.none _
      | refine LeO.ite ?_ ?_
      | refine LeO.bind ?_ (fun _ => ?_)
    · intro y0 y1 y2 y3 y4 y5 y6 y7 y8 y9 y10 y11
      unfold joistlaw09_RootsTurns.l0
      repeat' first
      | (with_reducible exact ih0 _ _ _ _ _ _)
      | (with_reducible exact ih1 _ _ _ _ _ _ _ _ _ _ _)
      | (with_reducible exact ih2 _ _ _ _ _ _ _ _ _ _ _ _)
      | (with_reducible exact ih3 _ _ _ _ _ _ _ _ _ _ _)
      | (with_reducible exact joistlaw09_few.mono _ _)
      | (with_reducible exact joistlaw09_small.mono _)
      | (with_reducible exact joistref09_Drop.mono _ _ _)
      | (with_reducible exact joistref09_Same.mono _ _ _)
      | (with_reducible exact joistref09_Set.mono _ _ _ _ _)
      | (with_reducible exact roots_Drop.mono _ _ _)
      | (with_reducible exact roots_Set.mono _ _ _ _ _)
      | (with_reducible exact LeO.refl _)
      | (with_reducible exact LeO.none _)
      | (with_reducible refine LeO.ite ?_ ?_)
      | (with_reducible refine LeO.bind ?_ (fun _ => ?_))
      | exact ih0 _ _ _ _ _ _
      | exact ih1 _ _ _ _ _ _ _ _ _ _ _
      | exact ih2 _ _ _ _ _ _ _ _ _ _ _ _
      | exact ih3 _ _ _ _ _ _ _ _ _ _ _
      | exact joistlaw09_few.mono _ _
      | exact joistlaw09_small.mono _
      | exact joistref09_Drop.mono _ _ _
      | exact joistref09_Same.mono _ _ _
      | exact joistref09_Set.mono _ _ _ _ _
      | exact roots_Drop.mono _ _ _
      | exact roots_Set.mono _ _ _ _ _
      | exact LeO.none _
      | refine LeO.ite ?_ ?_
      | refine LeO.bind ?_ (fun _ => ?_)
    · intro y0 y1 y2 y3 y4 y5 y6 y7 y8 y9 y10
      unfold joistlaw09_RootsTurns.l1
      repeat' first
      | (with_reducible exact ih0 _ _ _ _ _ _)
      | (with_reducible exact ih1 _ _ _ _ _ _ _ _ _ _ _)
      | (with_reducible exact ih2 _ _ _ _ _ _ _ _ _ _ _ _)
      | (with_reducible exact ih3 _ _ _ _ _ _ _ _ _ _ _)
      | (with_reducible exact joistlaw09_few.mono _ _)
      | (with_reducible exact joistlaw09_small.mono _)
      | (with_reducible exact joistref09_Drop.mono _ _ _)
      | (with_reducible exact joistref09_Same.mono _ _ _)
      | (with_reducible exact joistref09_Set.mono _ _ _ _ _)
      | (with_reducible exact roots_Drop.mono _ _ _)
      | (with_reducible exact roots_Set.mono _ _ _ _ _)
      | (with_reducible exact LeO.refl _)
      | (with_reducible exact LeO.none _)
      | (with_reducible refine LeO.ite ?_ ?_)
      | (with_reducible refine LeO.bind ?_ (fun _ => ?_))
      | exact ih0 _ _ _ _ _ _
      | exact ih1 _ _ _ _ _ _ _ _ _ _ _
      | exact ih2 _ _ _ _ _ _ _ _ _ _ _ _
      | exact ih3 _ _ _ _ _ _ _ _ _ _ _
      | exact joistlaw09_few.mono _ _
      | exact joistlaw09_small.mono _
      | exact joistref09_Drop.mono _ _ _
      | exact joistref09_Same.mono _ _ _
      | exact joistref09_Set.mono _ _ _ _ _
      | exact roots_Drop.mono _ _ _
      | exact roots_Set.mono _ _ _ _ _
      | exact LeO.none _
      | refine LeO.ite ?_ ?_
      | refine LeO.bind ?_ (fun _ => ?_)
theorem joistlaw09_RootsTurns.mono : ∀ a0 a1 a2 a3 k, LeO (joistlaw09_RootsTurns.f k a0 a1 a2 a3) (joistlaw09_RootsTurns.f (k + 1) a0 a1 a2 a3) := by
  intro a0 a1 a2 a3 k
  obtain ⟨ih0, ih1, ih2, ih3⟩ := joistlaw09_RootsTurns.mono_l k
  unfold joistlaw09_RootsTurns.f
  repeat' first
      | (with_reducible exact ih0 _ _ _ _ _ _)
      | (with_reducible exact ih1 _ _ _ _ _ _ _ _ _ _ _)
      | (with_reducible exact ih2 _ _ _ _ _ _ _ _ _ _ _ _)
      | (with_reducible exact ih3 _ _ _ _ _ _ _ _ _ _ _)
      | (with_reducible exact joistlaw09_few.mono _ _)
      | (with_reducible exact joistlaw09_small.mono _)
      | (with_reducible exact joistref09_Drop.mono _ _ _)
      | (with_reducible exact joistref09_Same.mono _ _ _)
      | (with_reducible exact joistref09_Set.mono _ _ _ _ _)
      | (with_reducible exact roots_Drop.mono _ _ _)
      | (with_reducible exact roots_Set.mono _ _ _ _ _)
      | (with_reducible exact LeO.refl _)
      | (with_reducible exact LeO.none _)
      | (with_reducible refine LeO.ite ?_ ?_)
      | (with_reducible refine LeO.bind ?_ (fun _ => ?_))
      | exact ih0 _ _ _ _ _ _
      | exact ih1 _ _ _ _ _ _ _ _ _ _ _
      | exact ih2 _ _ _ _ _ _ _ _ _ _ _ _
      | exact ih3 _ _ _ _ _ _ _ _ _ _ _
      | exact joistlaw09_few.mono _ _
      | exact joistlaw09_small.mono _
      | exact joistref09_Drop.mono _ _ _
      | exact joistref09_Same.mono _ _ _
      | exact joistref09_Set.mono _ _ _ _ _
      | exact roots_Drop.mono _ _ _
      | exact roots_Set.mono _ _ _ _ _
      | exact LeO.none _
      | refine LeO.ite ?_ ?_
      | refine LeO.bind ?_ (fun _ => ?_)
set_option maxHeartbeats 8000000 in
set_option maxRecDepth 100000 in
theorem joistlaw09_RootsTurns.calls (k : Nat) (A0 : Option Addr) (c0 : Nat) (l0 : List (S37)) (a1 : ByteArray) (a2_0 : Int) (a2_1 : Int) (r : Bool) (w : World) (hr0 : Kd.C k37 w A0 l0.length l0) (hc0 : l0.length ≤ c0) (h : joistlaw09_RootsTurns.f k l0 a1 a2_0 a2_1 = some r) :
    Calls Try.prog 4 #[.slice A0 l0.length c0, .string a1, .agg #[.int .i64 a2_0, .int .i64 a2_1]] w fun e w' => e = .returned (.bool r) ∧ Below w.heap.size w w' := by
  have hu29 := Try.underlying29
  have HR0 := Aside0.mk hr0
  have HC0 := Aside0.mk hc0
  clear hr0 hc0
  have HB := Aside0.mk (Below.refl w.heap.size w)
  have H : ((joistlaw09_small.f k).bind fun t249 => ((joistlaw09_few.f k l0).bind fun t250 => (if t250 = true then (joistlaw09_RootsTurns.j0 k l0 a1 t249 (decide ((a1.size : Int) > 1024)) a2_0 a2_1) else (joistlaw09_RootsTurns.j0 k l0 a1 t249 true a2_0 a2_1)))) = some r := h
  clear h
  replace H := Option.bind_eq_some_iff.mp H
  obtain ⟨t249, A40, H⟩ := H
  replace H : ((joistlaw09_few.f k l0).bind fun t250 => (if t250 = true then (joistlaw09_RootsTurns.j0 k l0 a1 t249 (decide ((a1.size : Int) > 1024)) a2_0 a2_1) else (joistlaw09_RootsTurns.j0 k l0 a1 t249 true a2_0 a2_1))) = some r := H
  have A4 := Aside0.mk A40
  clear A40
  replace H := Option.bind_eq_some_iff.mp H
  obtain ⟨t250, A50, H⟩ := H
  replace H : (if t250 = true then (joistlaw09_RootsTurns.j0 k l0 a1 t249 (decide ((a1.size : Int) > 1024)) a2_0 a2_1) else (joistlaw09_RootsTurns.j0 k l0 a1 t249 true a2_0 a2_1)) = some r := H
  have A5 := Aside0.mk A50
  clear A50
  have HC6 := Aside0.mk H
  clear H
  go_enter Try.func4, Try.ntmps4
  go_upto_region 3 with (first | ((with_reducible refine gate_dst (N := 5) rfl ?_); (try (refine gate_guard (by rfl) ?_; dsimp only)); refine box_event ?hg (N := 5) ?hd (cs := #[.int .i64 a2_0, .int .i64 a2_1]) (t := 29) ?hr ?_; (case hd => rfl); (case hg => rfl); (case hr => first | (go_simp; done) | (go_simp; rfl)); intro gb248 hg w7 hbox hb; have n0_ := Aside0.mk (below_step (by repeat (first | (with_reducible first | exact HB.out | apply below_alloc | apply pw_below_drewN | apply below_drew1) | exact HB.out)) hb); have n1_ := Aside0.mk (hbox); have n2_ := Aside0.mk ((by rw [hg]; exact (below_size (by repeat (first | (with_reducible first | exact HB.out | apply below_alloc | apply pw_below_drewN | apply below_drew1) | exact HB.out))) : w.heap.size ≤ gb248)); have n3_ := Aside0.mk ((by rw [hg]; exact (below_size (by repeat (first | (with_reducible first | exact HB.out | apply below_alloc | apply pw_below_drewN | apply below_drew1) | exact HB.out))) : w.heap.size ≤ gb248)); clear HB; have HB := n0_; have BK248 := n1_; have GW248 := n2_; have GE248 := n3_; clear n0_ n1_ n2_ n3_; clear hb hbox hg) | ((with_reducible refine gate_callee (f := 7) rfl ?_); refine goesL_ (some 22) rfl rfl Try.func7 (by kernel_rfl) rfl #[] rfl (by (try simp only [List.map_toArray, List.map_cons, List.map_nil]); first | done | rfl | (simp only [List.length_drop, List.length_take]; rfl)) ?_; (with_reducible refine (joistlaw09_small.calls k  t249 _ A4.out).mono ?_); rintro e w8 ⟨rfl, hb⟩; refine ⟨_, rfl, ?_⟩; have n0_ := Aside0.mk (blk_below (g := gb248) (o := .cells #[.int .i64 a2_0, .int .i64 a2_1] 29 (0, 0)) (by (with_reducible repeat (first | refine blk_drewN ?_ _ | refine blk_drew ?_ | refine blk_alloc ?_ _)); exact BK248.out) hb); have n1_ := Aside0.mk (below_step (by repeat (first | (with_reducible first | exact HB.out | apply below_alloc | apply pw_below_drewN | apply below_drew1 | refine below_set ?_ GE248.out) | exact HB.out)) hb); clear BK248; clear HB; have BK248 := n0_; have HB := n1_; clear n0_ n1_; (try clear hb); (try clear hb2); (try clear hk); (try clear hi)) | ((with_reducible refine gate_callee (f := 8) rfl ?_); refine goesL_ (some 24) rfl rfl Try.func8 (by kernel_rfl) rfl #[.slice A0 l0.length c0] rfl (by (try simp only [List.map_toArray, List.map_cons, List.map_nil]); first | done | rfl | (simp only [List.length_drop, List.length_take]; rfl)) ?_; (with_reducible refine (joistlaw09_few.calls k _ _ l0 t250 _ ?side1 ?side2 A5.out).mono ?_); (case side1 => repeat (first | exact (Kd.C_below HR0.out HB.out) | (with_reducible refine Kd.C_alloc ?_ _) | (with_reducible refine Kd.C_drewN ?_ _) | (with_reducible refine Kd.C_drew ?_))); (case side2 => exact HC0.out); rintro e w' ⟨rfl, ⟨nd, rfl⟩⟩; refine ⟨_, rfl, ?_⟩))
  (try simp only [Act.put, List.setIfInBounds_toArray, List.set_cons_zero, List.set_cons_succ])
  go_cut [31] (fun v31 wc => ∃ (kq : Nat) (x31_5 : Bool), v31 = .bool x31_5 ∧ Aside0 (joistlaw09_RootsTurns.j0 kq l0 a1 t249 x31_5 a2_0 a2_1 = some r) ∧ Aside0 (kq ≤ k) ∧ Aside0 (wc.heap[gb248]? = some (.cells #[.int .i64 a2_0, .int .i64 a2_1] 29 (0, 0))) ∧ Aside0 (Below w.heap.size w wc))
  case first =>
    have H := HC6.out
    clear HC6
    by_cases c9 : t250 = true
    · subst c9
      have H1 : (joistlaw09_RootsTurns.j0 k l0 a1 t249 (decide ((a1.size : Int) > 1024)) a2_0 a2_1) = some r := by rw [if_pos rfl] at H; exact H
      clear H
      have H := H1
      clear H1
      have H' := Aside0.mk H
      clear H
      go_wp2
      go_meet
      case rel => exact ⟨_, (decide ((a1.size : Int) > 1024)), (by first | rfl | (simp; done) | (simp [*]; done)), H', ⟨by first | omega | exact Nat.le_refl _⟩, ⟨by (with_reducible repeat (first | refine blk_drewN ?_ _ | refine blk_drew ?_ | refine blk_alloc ?_ _)); exact BK248.out⟩, ⟨by repeat (first | (with_reducible first | exact HB.out | apply below_alloc | apply pw_below_drewN | apply below_drew1 | refine below_set ?_ GE248.out) | exact HB.out)⟩⟩
    · replace c9 := Bool.eq_false_iff.mpr c9
      subst c9
      have H1 : (joistlaw09_RootsTurns.j0 k l0 a1 t249 true a2_0 a2_1) = some r := by rw [if_neg (show ¬ (false = true) by decide)] at H; exact H
      clear H
      have H := H1
      clear H1
      have H' := Aside0.mk H
      clear H
      go_wp2
      go_meet
      case rel => exact ⟨_, (true), (by first | rfl | (simp; done) | (simp [*]; done)), H', ⟨by first | omega | exact Nat.le_refl _⟩, ⟨by (with_reducible repeat (first | refine blk_drewN ?_ _ | refine blk_drew ?_ | refine blk_alloc ?_ _)); exact BK248.out⟩, ⟨by repeat (first | (with_reducible first | exact HB.out | apply below_alloc | apply pw_below_drewN | apply below_drew1 | refine below_set ?_ GE248.out) | exact HB.out)⟩⟩
  case rest =>
    clear HC6
    try clear p2
    try clear c4
    try clear c7
    try clear c8
    try clear c9
    obtain ⟨kq, x31_5, rfl, HA, HJ5, BK248, HB⟩ := hcut
    cases kq with
    | zero => exact absurd HA.out (by simp [joistlaw09_RootsTurns.j0])
    | succ kj5 =>
      have H := HA.out
      clear HA
      simp only [joistlaw09_RootsTurns.j0] at H
      by_cases c10 : x31_5 = true
      · subst c10
        have H1 : (some t249) = some r := by rw [if_pos rfl] at H; exact H
        clear H
        have H := H1
        clear H1
        obtain rfl := Option.some.inj H
        go_wp2
        go_ret
        exact ⟨by first | rfl | (simp [errW_none, errW_some] <;> rfl) | (simp [*, errW_none, errW_some] <;> rfl), by repeat (first | (with_reducible first | exact HB.out | apply below_alloc | apply pw_below_drewN | apply below_drew1 | refine below_set ?_ GE248.out) | exact HB.out)⟩
      · replace c10 := Bool.eq_false_iff.mpr c10
        subst c10
        have H1 : ((some (([] : List (S37)) : List (S37))).bind fun y251 => (if y251.length + l0.length < 4398046511104 then ((some (y251 ++ l0 : List (S37))).bind fun y254 => ((roots_Set.f kj5 y254 a1 a2_0 a2_1).bind fun bt257 => ((roots_Drop.f kj5 y254 a1).bind fun bt261 => ((joistref09_Set.f kj5 l0 a1 a2_0 a2_1).bind fun bt265 => ((joistref09_Drop.f kj5 l0 a1).bind fun bt269 => ((joistref09_Same.f kj5 y254 l0).bind fun t273 => ((joistref09_Same.f kj5 bt257.1 bt265.1).bind fun t274 => (if t274 = true then ((joistref09_Same.f kj5 bt261.1 bt269.1).bind fun t275 => (joistlaw09_RootsTurns.j1 kj5 l0 t249 y254 bt257.1 bt257.2 bt261.1 bt261.2 bt265.2 bt269.2 t273 t275)) else (joistlaw09_RootsTurns.j1 kj5 l0 t249 y254 bt257.1 bt257.2 bt261.1 bt261.2 bt265.2 bt269.2 t273 false))))))))) else (none))) = some r := by rw [if_neg (show ¬ (false = true) by decide)] at H; exact H
        clear H
        have H := H1
        clear H1
        obtain ⟨y251, hy251⟩ : ∃ y_ : List (S37), y_ = (([] : List (S37))) := ⟨_, rfl⟩
        replace H : (if y251.length + l0.length < 4398046511104 then ((some (y251 ++ l0 : List (S37))).bind fun y254 => ((roots_Set.f kj5 y254 a1 a2_0 a2_1).bind fun bt257 => ((roots_Drop.f kj5 y254 a1).bind fun bt261 => ((joistref09_Set.f kj5 l0 a1 a2_0 a2_1).bind fun bt265 => ((joistref09_Drop.f kj5 l0 a1).bind fun bt269 => ((joistref09_Same.f kj5 y254 l0).bind fun t273 => ((joistref09_Same.f kj5 bt257.1 bt265.1).bind fun t274 => (if t274 = true then ((joistref09_Same.f kj5 bt261.1 bt269.1).bind fun t275 => (joistlaw09_RootsTurns.j1 kj5 l0 t249 y254 bt257.1 bt257.2 bt261.1 bt261.2 bt265.2 bt269.2 t273 t275)) else (joistlaw09_RootsTurns.j1 kj5 l0 t249 y254 bt257.1 bt257.2 bt261.1 bt261.2 bt265.2 bt269.2 t273 false))))))))) else (none)) = some r := by first | (rw [hy251]; with_reducible exact H) | (have H2_ := (Option.bind_some _ _).symm.trans H; rw [hy251]; with_reducible exact H2_) | (have H2_ := (Option.bind_some _ _).symm.trans H; with_reducible exact H2_) | with_reducible exact H | (rw [hy251]; exact H) | exact H
        have Ny251 := Aside0.mk hy251
        clear hy251
        by_cases c11 : y251.length + l0.length < 4398046511104
        · rw [if_pos c11] at H
          have LMc11 := Aside0.mk c11
          clear c11
          obtain ⟨y254, hy254⟩ : ∃ y_ : List (S37), y_ = (y251 ++ l0) := ⟨_, rfl⟩
          replace H : ((roots_Set.f kj5 y254 a1 a2_0 a2_1).bind fun bt257 => ((roots_Drop.f kj5 y254 a1).bind fun bt261 => ((joistref09_Set.f kj5 l0 a1 a2_0 a2_1).bind fun bt265 => ((joistref09_Drop.f kj5 l0 a1).bind fun bt269 => ((joistref09_Same.f kj5 y254 l0).bind fun t273 => ((joistref09_Same.f kj5 bt257.1 bt265.1).bind fun t274 => (if t274 = true then ((joistref09_Same.f kj5 bt261.1 bt269.1).bind fun t275 => (joistlaw09_RootsTurns.j1 kj5 l0 t249 y254 bt257.1 bt257.2 bt261.1 bt261.2 bt265.2 bt269.2 t273 t275)) else (joistlaw09_RootsTurns.j1 kj5 l0 t249 y254 bt257.1 bt257.2 bt261.1 bt261.2 bt265.2 bt269.2 t273 false)))))))) = some r := by first | (rw [hy254]; with_reducible exact H) | (have H2_ := (Option.bind_some _ _).symm.trans H; rw [hy254]; with_reducible exact H2_) | (have H2_ := (Option.bind_some _ _).symm.trans H; with_reducible exact H2_) | with_reducible exact H | (rw [hy254]; exact H) | exact H
          have Ny254 := Aside0.mk hy254
          clear hy254
          replace H := Option.bind_eq_some_iff.mp H
          obtain ⟨⟨t257, t260⟩, A120, H⟩ := H
          replace H : ((roots_Drop.f kj5 y254 a1).bind fun bt261 => ((joistref09_Set.f kj5 l0 a1 a2_0 a2_1).bind fun bt265 => ((joistref09_Drop.f kj5 l0 a1).bind fun bt269 => ((joistref09_Same.f kj5 y254 l0).bind fun t273 => ((joistref09_Same.f kj5 t257 bt265.1).bind fun t274 => (if t274 = true then ((joistref09_Same.f kj5 bt261.1 bt269.1).bind fun t275 => (joistlaw09_RootsTurns.j1 kj5 l0 t249 y254 t257 t260 bt261.1 bt261.2 bt265.2 bt269.2 t273 t275)) else (joistlaw09_RootsTurns.j1 kj5 l0 t249 y254 t257 t260 bt261.1 bt261.2 bt265.2 bt269.2 t273 false))))))) = some r := H
          have A12 := Aside0.mk A120
          clear A120
          replace H := Option.bind_eq_some_iff.mp H
          obtain ⟨⟨t261, t262⟩, A130, H⟩ := H
          replace H : ((joistref09_Set.f kj5 l0 a1 a2_0 a2_1).bind fun bt265 => ((joistref09_Drop.f kj5 l0 a1).bind fun bt269 => ((joistref09_Same.f kj5 y254 l0).bind fun t273 => ((joistref09_Same.f kj5 t257 bt265.1).bind fun t274 => (if t274 = true then ((joistref09_Same.f kj5 t261 bt269.1).bind fun t275 => (joistlaw09_RootsTurns.j1 kj5 l0 t249 y254 t257 t260 t261 t262 bt265.2 bt269.2 t273 t275)) else (joistlaw09_RootsTurns.j1 kj5 l0 t249 y254 t257 t260 t261 t262 bt265.2 bt269.2 t273 false)))))) = some r := H
          have A13 := Aside0.mk A130
          clear A130
          replace H := Option.bind_eq_some_iff.mp H
          obtain ⟨⟨t265, t268⟩, A140, H⟩ := H
          replace H : ((joistref09_Drop.f kj5 l0 a1).bind fun bt269 => ((joistref09_Same.f kj5 y254 l0).bind fun t273 => ((joistref09_Same.f kj5 t257 t265).bind fun t274 => (if t274 = true then ((joistref09_Same.f kj5 t261 bt269.1).bind fun t275 => (joistlaw09_RootsTurns.j1 kj5 l0 t249 y254 t257 t260 t261 t262 t268 bt269.2 t273 t275)) else (joistlaw09_RootsTurns.j1 kj5 l0 t249 y254 t257 t260 t261 t262 t268 bt269.2 t273 false))))) = some r := H
          have A14 := Aside0.mk A140
          clear A140
          replace H := Option.bind_eq_some_iff.mp H
          obtain ⟨⟨t269, t270⟩, A150, H⟩ := H
          replace H : ((joistref09_Same.f kj5 y254 l0).bind fun t273 => ((joistref09_Same.f kj5 t257 t265).bind fun t274 => (if t274 = true then ((joistref09_Same.f kj5 t261 t269).bind fun t275 => (joistlaw09_RootsTurns.j1 kj5 l0 t249 y254 t257 t260 t261 t262 t268 t270 t273 t275)) else (joistlaw09_RootsTurns.j1 kj5 l0 t249 y254 t257 t260 t261 t262 t268 t270 t273 false)))) = some r := H
          have A15 := Aside0.mk A150
          clear A150
          replace H := Option.bind_eq_some_iff.mp H
          obtain ⟨t273, A160, H⟩ := H
          replace H : ((joistref09_Same.f kj5 t257 t265).bind fun t274 => (if t274 = true then ((joistref09_Same.f kj5 t261 t269).bind fun t275 => (joistlaw09_RootsTurns.j1 kj5 l0 t249 y254 t257 t260 t261 t262 t268 t270 t273 t275)) else (joistlaw09_RootsTurns.j1 kj5 l0 t249 y254 t257 t260 t261 t262 t268 t270 t273 false))) = some r := H
          have A16 := Aside0.mk A160
          clear A160
          have HC17 := Aside0.mk H
          clear H
          go_upto_region 11 with (first | ((with_reducible refine gate_dst (N := 33) rfl ?_); (try (refine gate_guard (by rfl) ?_; dsimp only)); refine Kd.R_lit k37 _ 37 ?hg (N := 33) ?hd (xs := ([] : List (S37))) (inner := []) (ok := fun _ => True) (okp := fun _ => True) ?hr ?hp (fun _ hk => hk) trivial (Below.refl _ _) (Nat.le_refl _) (by simp) ?_; (case hd => rfl); (case hg => rfl); (case hr => first | (go_simp; done) | (go_simp; rfl)); (case hp => exact (Reps.none _ _)); intro v252 w18 ho19 hb hg_ hnew_; clear hg_ hnew_; (first | rw [← Ny251.out] at ho19 | (simp only [Int.reduceToNat] at ho19; rw [← Ny251.out] at ho19)); have n0_ := Aside0.mk (Kd.R_lower ho19 (below_size (by repeat (first | (with_reducible first | exact HB.out | apply below_alloc | apply pw_below_drewN | apply below_drew1 | refine below_set ?_ GE248.out) | exact HB.out)))); have n1_ := Aside0.mk (blk_below (g := gb248) (o := .cells #[.int .i64 a2_0, .int .i64 a2_1] 29 (0, 0)) (by (with_reducible repeat (first | refine blk_drewN ?_ _ | refine blk_drew ?_ | refine blk_alloc ?_ _)); exact BK248.out) hb); have n2_ := Aside0.mk (below_step (by repeat (first | (with_reducible first | exact HB.out | apply below_alloc | apply pw_below_drewN | apply below_drew1 | refine below_set ?_ GE248.out) | exact HB.out)) hb); clear BK248; clear HB; have HO253 := n0_; have BK248 := n1_; have HB := n2_; clear n0_ n1_ n2_; clear hb ho19) | ((with_reducible refine gate_builtin (b := .append) (xs := #[.tmp 33, .tmp 34]) rfl ?_); (try (refine gate_guard (by rfl) ?_; dsimp only)); at_builtin; refine Kd.R_append_rows k37 (w0 := w) w.heap.size rfl (.tmp 33) (.tmp 34) 22 37 (.agg #[(.string ⟨#[]⟩), (.int .i64 0), (.int .i64 0)]) 32 rfl Try.underlying22 info37 rfl (by decide) (by omega) v252 y251 l0 _ _ _ (fun _ => True) (fun _ => False) rfl rfl ?aO ?aR (fun _ _ h => h) (fun _ h => h.elim) ?aF ?aB ?aS ?aL ?_; (case aR => repeat (first | exact (Kd.C_below HR0.out HB.out) | (with_reducible refine Kd.C_alloc ?_ _) | (with_reducible refine Kd.C_drewN ?_ _) | (with_reducible refine Kd.C_drew ?_))); (case aB => exact (by repeat (first | (with_reducible first | exact HB.out | apply below_alloc | apply pw_below_drewN | apply below_drew1 | refine below_set ?_ GE248.out) | exact HB.out))); (case aF => exact (fun _ _ => trivial)); (case aO => exact (by (with_reducible repeat (first | apply Kd.R_alloc | apply Kd.R_drewN | apply Kd.R_drew)); exact HO253.out)); (case aS => exact (below_size (by repeat (first | (with_reducible first | exact HB.out | apply below_alloc | apply pw_below_drewN | apply below_drew1 | refine below_set ?_ GE248.out) | exact HB.out)))); (case aL => have := LMc11.out; omega); intro v255 w20 ho hb hg hat; rw [← Ny254.out] at ho; have n0_ := Aside0.mk (blk_grown (g := gb248) (o := .cells #[.int .i64 a2_0, .int .i64 a2_1] 29 (0, 0)) (by (with_reducible repeat (first | refine blk_drewN ?_ _ | refine blk_drew ?_ | refine blk_alloc ?_ _)); exact BK248.out) hg (Kd.R_ne HO253.out BK248.out (by decide))); have n1_ := Aside0.mk (hb); have n2_ := Aside0.mk (ho); clear BK248; clear HB; clear HO253; have BK248 := n0_; have HB := n1_; have HO256 := n2_; clear n0_ n1_ n2_; clear ho hb hg hat; have hcz21_0 : w20.cell? ⟨gb248, 0, none⟩ = some (.int .i64 a2_0) := (blk_cell BK248.out 0).trans rfl; have hcz21_1 : w20.cell? ⟨gb248, 1, none⟩ = some (.int .i64 a2_1) := (blk_cell BK248.out 1).trans rfl; have hfz21_0 := blk_frozen BK248.out 0; have hfz21_1 := blk_frozen BK248.out 1; obtain ⟨Ao22, co22, eo22⟩ := Kd.R_slice HO256.out; subst eo22) | ((with_reducible refine gate_callee (f := 16) rfl ?_); refine goesL_ (some 40) rfl rfl Try.func16 (by kernel_rfl) rfl #[.slice Ao22 y254.length co22, .string a1, .agg #[.int .i64 a2_0, .int .i64 a2_1]] rfl (by (try simp only [List.map_toArray, List.map_cons, List.map_nil]); first | done | rfl | (simp only [List.length_drop, List.length_take]; rfl)) ?_; (with_reducible refine (roots_Set.calls kj5 _ _ y254 a1 a2_0 a2_1 t257 t260 _ ?side1 ?side2 A12.out).mono ?_); (case side1 => repeat (first | exact (Kd.R_reads' HO256.out).2.2 | (with_reducible refine Kd.C_alloc ?_ _) | (with_reducible refine Kd.C_drewN ?_ _) | (with_reducible refine Kd.C_drew ?_))); (case side2 => exact (Kd.R_reads' HO256.out).2.1); rintro e w23 ⟨v258, rfl, ho0, hb⟩; refine ⟨_, rfl, ?_⟩; have n0_ := Aside0.mk (Kd.R_elder' (by (with_reducible repeat (first | apply Kd.R_alloc | apply Kd.R_drewN | apply Kd.R_drew)); exact HO256.out) (Kd.R_base ho0) hb); have n1_ := Aside0.mk (Kd.R_lower (Kd.R_new' ho0 (Kd.R_lt (by (with_reducible repeat (first | apply Kd.R_alloc | apply Kd.R_drewN | apply Kd.R_drew)); exact HO256.out))) (below_size (by repeat (first | (with_reducible first | exact HB.out | apply below_alloc | apply pw_below_drewN | apply below_drew1 | refine below_set ?_ GE248.out) | exact HB.out)))); have n2_ := Aside0.mk (blk_below (g := gb248) (o := .cells #[.int .i64 a2_0, .int .i64 a2_1] 29 (0, 0)) (by (with_reducible repeat (first | refine blk_drewN ?_ _ | refine blk_drew ?_ | refine blk_alloc ?_ _)); exact BK248.out) hb); have n3_ := Aside0.mk (below_step (by repeat (first | (with_reducible first | exact HB.out | apply below_alloc | apply pw_below_drewN | apply below_drew1 | refine below_set ?_ GE248.out) | exact HB.out)) hb); clear HO256; clear BK248; clear HB; have HO256 := n0_; have HO259 := n1_; have BK248 := n2_; have HB := n3_; clear n0_ n1_ n2_ n3_; (try clear hb); (try clear hb2); (try clear hk); (try clear hi); (try clear ho0)) | ((with_reducible refine gate_callee (f := 17) rfl ?_); refine goesL_ (some 46) rfl rfl Try.func17 (by kernel_rfl) rfl #[.slice Ao22 y254.length co22, .string a1] rfl (by (try simp only [List.map_toArray, List.map_cons, List.map_nil]); first | done | rfl | (simp only [List.length_drop, List.length_take]; rfl)) ?_; (with_reducible refine (roots_Drop.calls kj5 _ _ y254 a1 t261 t262 _ ?side1 ?side2 A13.out).mono ?_); (case side1 => repeat (first | exact (Kd.R_reads' HO256.out).2.2 | (with_reducible refine Kd.C_alloc ?_ _) | (with_reducible refine Kd.C_drewN ?_ _) | (with_reducible refine Kd.C_drew ?_))); (case side2 => exact (Kd.R_reads' HO256.out).2.1); rintro e w24 ⟨v263, rfl, ho0, hb⟩; refine ⟨_, rfl, ?_⟩; have n0_ := Aside0.mk (Kd.R_elder' (by (with_reducible repeat (first | apply Kd.R_alloc | apply Kd.R_drewN | apply Kd.R_drew)); exact HO256.out) (Kd.R_base ho0) hb); have n1_ := Aside0.mk (Kd.R_elder' (by (with_reducible repeat (first | apply Kd.R_alloc | apply Kd.R_drewN | apply Kd.R_drew)); exact HO259.out) (Kd.R_base ho0) hb); have n2_ := Aside0.mk (Kd.R_lower (Kd.R_new' (Kd.R_new' ho0 (Kd.R_lt (by (with_reducible repeat (first | apply Kd.R_alloc | apply Kd.R_drewN | apply Kd.R_drew)); exact HO256.out))) (Kd.R_lt (by (with_reducible repeat (first | apply Kd.R_alloc | apply Kd.R_drewN | apply Kd.R_drew)); exact HO259.out))) (below_size (by repeat (first | (with_reducible first | exact HB.out | apply below_alloc | apply pw_below_drewN | apply below_drew1 | refine below_set ?_ GE248.out) | exact HB.out)))); have n3_ := Aside0.mk (blk_below (g := gb248) (o := .cells #[.int .i64 a2_0, .int .i64 a2_1] 29 (0, 0)) (by (with_reducible repeat (first | refine blk_drewN ?_ _ | refine blk_drew ?_ | refine blk_alloc ?_ _)); exact BK248.out) hb); have n4_ := Aside0.mk (below_step (by repeat (first | (with_reducible first | exact HB.out | apply below_alloc | apply pw_below_drewN | apply below_drew1 | refine below_set ?_ GE248.out) | exact HB.out)) hb); clear HO256; clear HO259; clear BK248; clear HB; have HO256 := n0_; have HO259 := n1_; have HO264 := n2_; have BK248 := n3_; have HB := n4_; clear n0_ n1_ n2_ n3_ n4_; (try clear hb); (try clear hb2); (try clear hk); (try clear hi); (try clear ho0); have hcz25_0 : w24.cell? ⟨gb248, 0, none⟩ = some (.int .i64 a2_0) := (blk_cell BK248.out 0).trans rfl; have hcz25_1 : w24.cell? ⟨gb248, 1, none⟩ = some (.int .i64 a2_1) := (blk_cell BK248.out 1).trans rfl; have hfz25_0 := blk_frozen BK248.out 0; have hfz25_1 := blk_frozen BK248.out 1) | ((with_reducible refine gate_callee (f := 18) rfl ?_); refine goesL_ (some 53) rfl rfl Try.func18 (by kernel_rfl) rfl #[.slice A0 l0.length c0, .string a1, .agg #[.int .i64 a2_0, .int .i64 a2_1]] rfl (by (try simp only [List.map_toArray, List.map_cons, List.map_nil]); first | done | rfl | (simp only [List.length_drop, List.length_take]; rfl)) ?_; (with_reducible refine (joistref09_Set.calls kj5 _ _ l0 a1 a2_0 a2_1 t265 t268 _ ?side1 ?side2 A14.out).mono ?_); (case side1 => repeat (first | exact (Kd.C_below HR0.out HB.out) | (with_reducible refine Kd.C_alloc ?_ _) | (with_reducible refine Kd.C_drewN ?_ _) | (with_reducible refine Kd.C_drew ?_))); (case side2 => exact HC0.out); rintro e w26 ⟨v266, rfl, ho0, hb⟩; refine ⟨_, rfl, ?_⟩; have n0_ := Aside0.mk (Kd.R_elder' (by (with_reducible repeat (first | apply Kd.R_alloc | apply Kd.R_drewN | apply Kd.R_drew)); exact HO256.out) (Kd.R_base ho0) hb); have n1_ := Aside0.mk (Kd.R_elder' (by (with_reducible repeat (first | apply Kd.R_alloc | apply Kd.R_drewN | apply Kd.R_drew)); exact HO259.out) (Kd.R_base ho0) hb); have n2_ := Aside0.mk (Kd.R_elder' (by (with_reducible repeat (first | apply Kd.R_alloc | apply Kd.R_drewN | apply Kd.R_drew)); exact HO264.out) (Kd.R_base ho0) hb); have n3_ := Aside0.mk (Kd.R_lower (Kd.R_new' (Kd.R_new' (Kd.R_new' ho0 (Kd.R_lt (by (with_reducible repeat (first | apply Kd.R_alloc | apply Kd.R_drewN | apply Kd.R_drew)); exact HO256.out))) (Kd.R_lt (by (with_reducible repeat (first | apply Kd.R_alloc | apply Kd.R_drewN | apply Kd.R_drew)); exact HO259.out))) (Kd.R_lt (by (with_reducible repeat (first | apply Kd.R_alloc | apply Kd.R_drewN | apply Kd.R_drew)); exact HO264.out))) (below_size (by repeat (first | (with_reducible first | exact HB.out | apply below_alloc | apply pw_below_drewN | apply below_drew1 | refine below_set ?_ GE248.out) | exact HB.out)))); have n4_ := Aside0.mk (blk_below (g := gb248) (o := .cells #[.int .i64 a2_0, .int .i64 a2_1] 29 (0, 0)) (by (with_reducible repeat (first | refine blk_drewN ?_ _ | refine blk_drew ?_ | refine blk_alloc ?_ _)); exact BK248.out) hb); have n5_ := Aside0.mk (below_step (by repeat (first | (with_reducible first | exact HB.out | apply below_alloc | apply pw_below_drewN | apply below_drew1 | refine below_set ?_ GE248.out) | exact HB.out)) hb); clear HO256; clear HO259; clear HO264; clear BK248; clear HB; have HO256 := n0_; have HO259 := n1_; have HO264 := n2_; have HO267 := n3_; have BK248 := n4_; have HB := n5_; clear n0_ n1_ n2_ n3_ n4_ n5_; (try clear hb); (try clear hb2); (try clear hk); (try clear hi); (try clear ho0)) | ((with_reducible refine gate_callee (f := 19) rfl ?_); refine goesL_ (some 59) rfl rfl Try.func19 (by kernel_rfl) rfl #[.slice A0 l0.length c0, .string a1] rfl (by (try simp only [List.map_toArray, List.map_cons, List.map_nil]); first | done | rfl | (simp only [List.length_drop, List.length_take]; rfl)) ?_; (with_reducible refine (joistref09_Drop.calls kj5 _ _ l0 a1 t269 t270 _ ?side1 ?side2 A15.out).mono ?_); (case side1 => repeat (first | exact (Kd.C_below HR0.out HB.out) | (with_reducible refine Kd.C_alloc ?_ _) | (with_reducible refine Kd.C_drewN ?_ _) | (with_reducible refine Kd.C_drew ?_))); (case side2 => exact HC0.out); rintro e w27 ⟨v271, rfl, ho0, hb⟩; refine ⟨_, rfl, ?_⟩; have n0_ := Aside0.mk (Kd.R_elder' (by (with_reducible repeat (first | apply Kd.R_alloc | apply Kd.R_drewN | apply Kd.R_drew)); exact HO256.out) (Kd.R_base ho0) hb); have n1_ := Aside0.mk (Kd.R_elder' (by (with_reducible repeat (first | apply Kd.R_alloc | apply Kd.R_drewN | apply Kd.R_drew)); exact HO259.out) (Kd.R_base ho0) hb); have n2_ := Aside0.mk (Kd.R_elder' (by (with_reducible repeat (first | apply Kd.R_alloc | apply Kd.R_drewN | apply Kd.R_drew)); exact HO264.out) (Kd.R_base ho0) hb); have n3_ := Aside0.mk (Kd.R_elder' (by (with_reducible repeat (first | apply Kd.R_alloc | apply Kd.R_drewN | apply Kd.R_drew)); exact HO267.out) (Kd.R_base ho0) hb); have n4_ := Aside0.mk (Kd.R_lower (Kd.R_new' (Kd.R_new' (Kd.R_new' (Kd.R_new' ho0 (Kd.R_lt (by (with_reducible repeat (first | apply Kd.R_alloc | apply Kd.R_drewN | apply Kd.R_drew)); exact HO256.out))) (Kd.R_lt (by (with_reducible repeat (first | apply Kd.R_alloc | apply Kd.R_drewN | apply Kd.R_drew)); exact HO259.out))) (Kd.R_lt (by (with_reducible repeat (first | apply Kd.R_alloc | apply Kd.R_drewN | apply Kd.R_drew)); exact HO264.out))) (Kd.R_lt (by (with_reducible repeat (first | apply Kd.R_alloc | apply Kd.R_drewN | apply Kd.R_drew)); exact HO267.out))) (below_size (by repeat (first | (with_reducible first | exact HB.out | apply below_alloc | apply pw_below_drewN | apply below_drew1 | refine below_set ?_ GE248.out) | exact HB.out)))); have n5_ := Aside0.mk (blk_below (g := gb248) (o := .cells #[.int .i64 a2_0, .int .i64 a2_1] 29 (0, 0)) (by (with_reducible repeat (first | refine blk_drewN ?_ _ | refine blk_drew ?_ | refine blk_alloc ?_ _)); exact BK248.out) hb); have n6_ := Aside0.mk (below_step (by repeat (first | (with_reducible first | exact HB.out | apply below_alloc | apply pw_below_drewN | apply below_drew1 | refine below_set ?_ GE248.out) | exact HB.out)) hb); clear HO256; clear HO259; clear HO264; clear HO267; clear BK248; clear HB; have HO256 := n0_; have HO259 := n1_; have HO264 := n2_; have HO267 := n3_; have HO272 := n4_; have BK248 := n5_; have HB := n6_; clear n0_ n1_ n2_ n3_ n4_ n5_ n6_; (try clear hb); (try clear hb2); (try clear hk); (try clear hi); (try clear ho0)) | ((with_reducible refine gate_callee (f := 13) rfl ?_); refine goesL_ (some 64) rfl rfl Try.func13 (by kernel_rfl) rfl #[.slice Ao22 y254.length co22, .slice A0 l0.length c0] rfl (by (try simp only [List.map_toArray, List.map_cons, List.map_nil]); first | done | rfl | (simp only [List.length_drop, List.length_take]; rfl)) ?_; (with_reducible refine (joistref09_Same.calls kj5 _ _ y254 _ _ l0 t273 _ ?side1 ?side2 ?side3 ?side4 A16.out).mono ?_); (case side1 => repeat (first | exact (Kd.R_reads' HO256.out).2.2 | (with_reducible refine Kd.C_alloc ?_ _) | (with_reducible refine Kd.C_drewN ?_ _) | (with_reducible refine Kd.C_drew ?_))); (case side2 => exact (Kd.R_reads' HO256.out).2.1); (case side3 => repeat (first | exact (Kd.C_below HR0.out HB.out) | (with_reducible refine Kd.C_alloc ?_ _) | (with_reducible refine Kd.C_drewN ?_ _) | (with_reducible refine Kd.C_drew ?_))); (case side4 => exact HC0.out); rintro e w' ⟨rfl, ⟨nd, rfl⟩⟩; refine ⟨_, rfl, ?_⟩))
          (try simp only [Act.put, List.setIfInBounds_toArray, List.set_cons_zero, List.set_cons_succ])
          go_cut [19] (fun v19 wc => ∃ (kq : Nat) (x19_16 : Bool), v19 = .bool x19_16 ∧ Aside0 (joistlaw09_RootsTurns.j1 kq l0 t249 y254 t257 t260 t261 t262 t268 t270 t273 x19_16 = some r) ∧ Aside0 (kq ≤ kj5) ∧ Aside0 (Kd.R k37 37 wc w.heap.size (fun k_ => some k_ ≠ (v258 : Value).ownBlock ∧ some k_ ≠ (v263 : Value).ownBlock) (.slice Ao22 y254.length co22) y254) ∧ Aside0 (Kd.R k37 37 wc w.heap.size (fun k_ => some k_ ≠ ((.slice Ao22 y254.length co22) : Value).ownBlock ∧ some k_ ≠ (v263 : Value).ownBlock) v258 t257) ∧ Aside0 (Kd.R k37 37 wc w.heap.size (fun k_ => some k_ ≠ ((.slice Ao22 y254.length co22) : Value).ownBlock ∧ some k_ ≠ (v258 : Value).ownBlock) v263 t261) ∧ Aside0 (wc.heap[gb248]? = some (.cells #[.int .i64 a2_0, .int .i64 a2_1] 29 (0, 0))) ∧ Aside0 (Below w.heap.size w wc))
          case first =>
            have H := HC17.out
            clear HC17
            replace H := Option.bind_eq_some_iff.mp H
            obtain ⟨t274, A280, H⟩ := H
            replace H : (if t274 = true then ((joistref09_Same.f kj5 t261 t269).bind fun t275 => (joistlaw09_RootsTurns.j1 kj5 l0 t249 y254 t257 t260 t261 t262 t268 t270 t273 t275)) else (joistlaw09_RootsTurns.j1 kj5 l0 t249 y254 t257 t260 t261 t262 t268 t270 t273 false)) = some r := H
            have A28 := Aside0.mk A280
            clear A280
            by_cases c29 : t274 = true
            · subst c29
              have H1 : ((joistref09_Same.f kj5 t261 t269).bind fun t275 => (joistlaw09_RootsTurns.j1 kj5 l0 t249 y254 t257 t260 t261 t262 t268 t270 t273 t275)) = some r := by rw [if_pos rfl] at H; exact H
              clear H
              have H := H1
              clear H1
              replace H := Option.bind_eq_some_iff.mp H
              obtain ⟨t275, A300, H⟩ := H
              replace H : (joistlaw09_RootsTurns.j1 kj5 l0 t249 y254 t257 t260 t261 t262 t268 t270 t273 t275) = some r := H
              have A30 := Aside0.mk A300
              clear A300
              have H' := Aside0.mk H
              clear H
              obtain ⟨Ao31, co31, eo31⟩ := Kd.R_slice HO259.out
              subst eo31
              obtain ⟨Ao32, co32, eo32⟩ := Kd.R_slice HO267.out
              subst eo32
              go_wp2_with (first | ((with_reducible refine gate_callee (f := 13) rfl ?_); refine goesL_ (some 67) rfl rfl Try.func13 (by kernel_rfl) rfl #[.slice Ao31 t257.length co31, .slice Ao32 t265.length co32] rfl (by (try simp only [List.map_toArray, List.map_cons, List.map_nil]); first | done | rfl | (simp only [List.length_drop, List.length_take]; rfl)) ?_; (with_reducible refine (joistref09_Same.calls kj5 _ _ t257 _ _ t265 true _ ?side1 ?side2 ?side3 ?side4 A28.out).mono ?_); (case side1 => repeat (first | exact (Kd.R_reads' HO259.out).2.2 | (with_reducible refine Kd.C_alloc ?_ _) | (with_reducible refine Kd.C_drewN ?_ _) | (with_reducible refine Kd.C_drew ?_))); (case side2 => exact (Kd.R_reads' HO259.out).2.1); (case side3 => repeat (first | exact (Kd.R_reads' HO267.out).2.2 | (with_reducible refine Kd.C_alloc ?_ _) | (with_reducible refine Kd.C_drewN ?_ _) | (with_reducible refine Kd.C_drew ?_))); (case side4 => exact (Kd.R_reads' HO267.out).2.1); rintro e w' ⟨rfl, ⟨nd, rfl⟩⟩; refine ⟨_, rfl, ?_⟩; obtain ⟨Ao33, co33, eo33⟩ := Kd.R_slice HO264.out; subst eo33; obtain ⟨Ao34, co34, eo34⟩ := Kd.R_slice HO272.out; subst eo34) | (go_at_call 13; (with_reducible refine (joistref09_Same.calls kj5 _ _ t261 _ _ t269 t275 _ ?side1 ?side2 ?side3 ?side4 A30.out).mono ?_); (case side1 => repeat (first | exact (Kd.R_reads' HO264.out).2.2 | (with_reducible refine Kd.C_alloc ?_ _) | (with_reducible refine Kd.C_drewN ?_ _) | (with_reducible refine Kd.C_drew ?_))); (case side2 => exact (Kd.R_reads' HO264.out).2.1); (case side3 => repeat (first | exact (Kd.R_reads' HO272.out).2.2 | (with_reducible refine Kd.C_alloc ?_ _) | (with_reducible refine Kd.C_drewN ?_ _) | (with_reducible refine Kd.C_drew ?_))); (case side4 => exact (Kd.R_reads' HO272.out).2.1); rintro e w' ⟨rfl, ⟨nd, rfl⟩⟩))
              go_meet
              case rel => exact ⟨_, (t275), (by first | rfl | (simp; done) | (simp [*]; done)), H', ⟨by have := HJ5.out; first | omega | exact Nat.le_refl _⟩, ⟨by (with_reducible repeat (first | apply Kd.R_alloc | apply Kd.R_drewN | apply Kd.R_drew)); exact Kd.R_mono HO256.out (fun _ hk => ⟨hk.1.1.1.2, hk.1.1.2⟩)⟩, ⟨by (with_reducible repeat (first | apply Kd.R_alloc | apply Kd.R_drewN | apply Kd.R_drew)); exact Kd.R_mono HO259.out (fun _ hk => ⟨hk.1.1.1.2, hk.1.1.2⟩)⟩, ⟨by (with_reducible repeat (first | apply Kd.R_alloc | apply Kd.R_drewN | apply Kd.R_drew)); exact Kd.R_mono HO264.out (fun _ hk => ⟨hk.1.1.1.2, hk.1.1.2⟩)⟩, ⟨by (with_reducible repeat (first | refine blk_drewN ?_ _ | refine blk_drew ?_ | refine blk_alloc ?_ _)); exact BK248.out⟩, ⟨by repeat (first | (with_reducible first | exact HB.out | apply below_alloc | apply pw_below_drewN | apply below_drew1 | refine below_set ?_ GE248.out) | exact HB.out)⟩⟩
            · replace c29 := Bool.eq_false_iff.mpr c29
              subst c29
              have H1 : (joistlaw09_RootsTurns.j1 kj5 l0 t249 y254 t257 t260 t261 t262 t268 t270 t273 false) = some r := by rw [if_neg (show ¬ (false = true) by decide)] at H; exact H
              clear H
              have H := H1
              clear H1
              have H' := Aside0.mk H
              clear H
              obtain ⟨Ao35, co35, eo35⟩ := Kd.R_slice HO259.out
              subst eo35
              obtain ⟨Ao36, co36, eo36⟩ := Kd.R_slice HO267.out
              subst eo36
              go_wp2_with (first | ((with_reducible refine gate_callee (f := 13) rfl ?_); refine goesL_ (some 67) rfl rfl Try.func13 (by kernel_rfl) rfl #[.slice Ao35 t257.length co35, .slice Ao36 t265.length co36] rfl (by (try simp only [List.map_toArray, List.map_cons, List.map_nil]); first | done | rfl | (simp only [List.length_drop, List.length_take]; rfl)) ?_; (with_reducible refine (joistref09_Same.calls kj5 _ _ t257 _ _ t265 false _ ?side1 ?side2 ?side3 ?side4 A28.out).mono ?_); (case side1 => repeat (first | exact (Kd.R_reads' HO259.out).2.2 | (with_reducible refine Kd.C_alloc ?_ _) | (with_reducible refine Kd.C_drewN ?_ _) | (with_reducible refine Kd.C_drew ?_))); (case side2 => exact (Kd.R_reads' HO259.out).2.1); (case side3 => repeat (first | exact (Kd.R_reads' HO267.out).2.2 | (with_reducible refine Kd.C_alloc ?_ _) | (with_reducible refine Kd.C_drewN ?_ _) | (with_reducible refine Kd.C_drew ?_))); (case side4 => exact (Kd.R_reads' HO267.out).2.1); rintro e w' ⟨rfl, ⟨nd, rfl⟩⟩; refine ⟨_, rfl, ?_⟩))
              go_meet
              case rel => exact ⟨_, (false), (by first | rfl | (simp; done) | (simp [*]; done)), H', ⟨by have := HJ5.out; first | omega | exact Nat.le_refl _⟩, ⟨by (with_reducible repeat (first | apply Kd.R_alloc | apply Kd.R_drewN | apply Kd.R_drew)); exact Kd.R_mono HO256.out (fun _ hk => ⟨hk.1.1.1.2, hk.1.1.2⟩)⟩, ⟨by (with_reducible repeat (first | apply Kd.R_alloc | apply Kd.R_drewN | apply Kd.R_drew)); exact Kd.R_mono HO259.out (fun _ hk => ⟨hk.1.1.1.2, hk.1.1.2⟩)⟩, ⟨by (with_reducible repeat (first | apply Kd.R_alloc | apply Kd.R_drewN | apply Kd.R_drew)); exact Kd.R_mono HO264.out (fun _ hk => ⟨hk.1.1.1.2, hk.1.1.2⟩)⟩, ⟨by (with_reducible repeat (first | refine blk_drewN ?_ _ | refine blk_drew ?_ | refine blk_alloc ?_ _)); exact BK248.out⟩, ⟨by repeat (first | (with_reducible first | exact HB.out | apply below_alloc | apply pw_below_drewN | apply below_drew1 | refine below_set ?_ GE248.out) | exact HB.out)⟩⟩
          case rest =>
            clear HC17
            try clear c1
            try clear c2
            try clear p2
            try clear c4
            try clear c7
            try clear c8
            try clear c9
            try clear c10
            try clear c11
            try clear c13
            try clear c16
            try clear c17
            try clear c18
            try clear c19
            try clear c29
            try clear hcz21_0
            try clear hcz21_1
            try clear hcz25_0
            try clear hcz25_1
            try clear hfz21_0
            try clear hfz21_1
            try clear hfz25_0
            try clear hfz25_1
            try clear p2
            obtain ⟨kq, x19_16, rfl, HA, HJ16, HO_9, HO_10, HO_12, BK248, HB⟩ := hcut
            cases kq with
            | zero => exact absurd HA.out (by simp [joistlaw09_RootsTurns.j1])
            | succ kj16 =>
              have H := HA.out
              clear HA
              simp only [joistlaw09_RootsTurns.j1] at H
              have H' := Aside0.mk H
              clear H
              go_wp2
              go_loopg [20] kj16 (fun kq v20 w' => ∃ (x10_3 : List (S37)) (x20_3 : Int), v20 = .int .i64 x20_3 ∧ Aside0 (joistlaw09_RootsTurns.l0 kq l0 t249 y254 x10_3 t260 t261 t262 t268 t270 t273 x19_16 x20_3 = some r) ∧ Aside0 (kq ≤ kj16) ∧ Aside0 (Kd.R k37 37 w' w.heap.size (fun k_ => some k_ ≠ (v258 : Value).ownBlock ∧ some k_ ≠ (v263 : Value).ownBlock) (.slice Ao22 y254.length co22) y254) ∧ Aside0 (Kd.R k37 37 w' w.heap.size (fun k_ => some k_ ≠ ((.slice Ao22 y254.length co22) : Value).ownBlock ∧ some k_ ≠ (v263 : Value).ownBlock) v258 x10_3) ∧ Aside0 (Kd.R k37 37 w' w.heap.size (fun k_ => some k_ ≠ ((.slice Ao22 y254.length co22) : Value).ownBlock ∧ some k_ ≠ (v258 : Value).ownBlock) v263 t261) ∧ Aside0 (w'.heap[gb248]? = some (.cells #[.int .i64 a2_0, .int .i64 a2_1] 29 (0, 0))) ∧ Aside0 (Below w.heap.size w w'))
              case atStart => exact ⟨(t257), (0), (by first | rfl | (simp; done) | (simp [*]; done)), H', ⟨Nat.le_refl _⟩, ⟨by (with_reducible repeat (first | apply Kd.R_alloc | apply Kd.R_drewN | apply Kd.R_drew)); exact HO_9.out⟩, ⟨by (with_reducible repeat (first | apply Kd.R_alloc | apply Kd.R_drewN | apply Kd.R_drew)); exact HO_10.out⟩, ⟨by (with_reducible repeat (first | apply Kd.R_alloc | apply Kd.R_drewN | apply Kd.R_drew)); exact HO_12.out⟩, ⟨by (with_reducible repeat (first | refine blk_drewN ?_ _ | refine blk_drew ?_ | refine blk_alloc ?_ _)); exact BK248.out⟩, ⟨by repeat (first | (with_reducible first | exact HB.out | apply below_alloc | apply pw_below_drewN | apply below_drew1 | refine below_set ?_ GE248.out) | exact HB.out)⟩⟩
              case round =>
                clear H'
                try clear c1
                try clear c2
                try clear p2
                try clear c4
                try clear c7
                try clear c8
                try clear c9
                try clear c10
                try clear c11
                try clear c13
                try clear c16
                try clear c17
                try clear c18
                try clear c19
                try clear c29
                try clear hcz21_0
                try clear hcz21_1
                try clear hcz25_0
                try clear hcz25_1
                try clear hfz21_0
                try clear hfz21_1
                try clear hfz25_0
                try clear hfz25_1
                try clear p2
                obtain ⟨x10_3, x20_3, rfl, HA, HK3, HO_9, HO_10, HO_12, BK248, HB⟩ := hrel
                cases gk with
                | zero => exact absurd HA.out (by simp [joistlaw09_RootsTurns.l0])
                | succ k3 =>
                  have H := HA.out
                  clear HA
                  simp only [joistlaw09_RootsTurns.l0] at H
                  by_cases c37 : x20_3 < (x10_3.length : Int)
                  · rw [if_pos c37] at H
                    have c37b0 : decide (x20_3 < (x10_3.length : Int)) = true := decide_eq_true c37
                    clear c37
                    by_cases c38 : 0 ≤ x20_3
                    · rw [if_pos c38] at H
                      have c38b0 : decide (0 ≤ x20_3) = true := decide_eq_true c38
                      clear c38
                      obtain ⟨y276, hy276⟩ : ∃ y_ : List (S37), y_ = (x10_3.set (x20_3 : Int).toNat (⟨(⟨#[115, 112, 111, 105, 108, 116]⟩ : ByteArray), (⟨(rd_T37 x10_3 x20_3).f1.f0, (rd_T37 x10_3 x20_3).f1.f1⟩ : S29)⟩ : S37)) := ⟨_, rfl⟩
                      replace H : (joistlaw09_RootsTurns.l0 k3 l0 t249 y254 y276 t260 t261 t262 t268 t270 t273 x19_16 (wrap64 (x20_3 + 1))) = some r := by first | (rw [hy276]; with_reducible exact H) | (have H2_ := (Option.bind_some _ _).symm.trans H; rw [hy276]; with_reducible exact H2_) | (have H2_ := (Option.bind_some _ _).symm.trans H; with_reducible exact H2_) | with_reducible exact H | (rw [hy276]; exact H) | exact H
                      have Ny276 := Aside0.mk hy276
                      clear hy276
                      have H' := Aside0.mk H
                      clear H
                      obtain ⟨Ao40, co40, eo40⟩ := Kd.R_slice HO_10.out
                      subst eo40
                      have p39 : 0 ≤ (x20_3 : Int) := of_decide_eq_true (by first | (with_reducible assumption) | assumption)
                      have q39 : (x20_3 : Int) < ((x10_3.length : Int) : Int) := of_decide_eq_true (by first | (with_reducible assumption) | assumption)
                      obtain ⟨go39, co39, eo39, gb39, gl39, cl39, HG39⟩ := Kd.R_form HO_10.out (by omega)
                      (first | cases eo39 | (injection eo39 with ea_ en_ ec_; (first | subst ea_ | (injection ea_ with ea_; subst ea_)); subst ec_; clear en_))
                      have GB39 := Aside0.mk gb39
                      have GG39 := Aside0.mk HG39
                      clear gb39 gl39 HG39
                      obtain ⟨ce39, hcl39, hM39, hcc39, hfr39⟩ := Kd.R_elem HO_10.out z37 (x20_3 : Int) p39 q39
                      obtain rfl := k37_openM hM39
                      have hx39_0 : wr.cell? ⟨go39, (x20_3 : Int).toNat * 3, none⟩ = some (.string ((rd_T37 x10_3 x20_3).f0)) := hcc39 0 _ rfl
                      have hx39_1 : wr.cell? ⟨go39, (x20_3 : Int).toNat * 3 + 1, none⟩ = some (.int .i64 ((rd_T37 x10_3 x20_3).f1.f0)) := hcc39 1 _ rfl
                      have hx39_2 : wr.cell? ⟨go39, (x20_3 : Int).toNat * 3 + 2, none⟩ = some (.int .i64 ((rd_T37 x10_3 x20_3).f1.f1)) := hcc39 2 _ rfl
                      have hf39_0 : wr.frozen? ⟨go39, (x20_3 : Int).toNat * 3, none⟩ = false := hfr39 0
                      have hf39_1 : wr.frozen? ⟨go39, (x20_3 : Int).toNat * 3 + 1, none⟩ = false := hfr39 1
                      have hf39_2 : wr.frozen? ⟨go39, (x20_3 : Int).toNat * 3 + 2, none⟩ = false := hfr39 2
                      clear hcl39 hcc39 hfr39 hM39
                      replace p39 := eq_true p39
                      replace q39 := eq_true q39
                      have HX41 := Aside0.mk (show Kd.R k37 37 wr w.heap.size (fun k_ => some k_ ≠ (.slice Ao22 y254.length co22 : Value).ownBlock ∧ some k_ ≠ (v263 : Value).ownBlock) (.slice (some ⟨go39, 0, none⟩) x10_3.length co40) x10_3 from (by (with_reducible repeat (first | apply Kd.R_alloc | apply Kd.R_drewN | apply Kd.R_drew)); exact HO_10.out))
                      obtain ⟨ce41, hcl41, hM41, hcc41, hfr41⟩ := Kd.R_elem HX41.out z37 (x20_3 : Int) (of_decide_eq_true (by first | (with_reducible assumption) | assumption)) (by have h_ : (x20_3 : Int) < ((x10_3.length : Int) : Int) := of_decide_eq_true (by first | (with_reducible assumption) | assumption); first | exact h_ | (have e_ := (Kd.R_reads' HO_10.out).1; omega) | simpa using h_)
                      obtain rfl := k37_openM hM41
                      have HP41 := Kd.R_seg HX41.out (x20_3 : Int) (of_decide_eq_true (by first | (with_reducible assumption) | assumption)) (by have h_ : (x20_3 : Int) < ((x10_3.length : Int) : Int) := of_decide_eq_true (by first | (with_reducible assumption) | assumption); first | exact h_ | (have e_ := (Kd.R_reads' HO_10.out).1; omega) | simpa using h_) (seg := [.string (⟨#[115, 112, 111, 105, 108, 116]⟩ : ByteArray)]) (j := 0) hcl41 hcc41 (show 1 ≤ 3 from by decide) (x' := (⟨(⟨#[115, 112, 111, 105, 108, 116]⟩ : ByteArray), (⟨(rd_T37 x10_3 x20_3).f1.f0, (rd_T37 x10_3 x20_3).f1.f1⟩ : S29)⟩ : S37)) (k37_mkM _ _ _ (⟨(⟨#[115, 112, 111, 105, 108, 116]⟩ : ByteArray), (⟨(rd_T37 x10_3 x20_3).f1.f0, (rd_T37 x10_3 x20_3).f1.f1⟩ : S29)⟩ : S37) ) (fun _ hk => hk)
                      have hx41_0 := hcc41 0 _ rfl
                      (try simp only [show (k37).sz = 3 from rfl, Nat.mul_one, Nat.add_zero] at hx41_0)
                      have hf41_0 := hfr41 0
                      (try simp only [show (k37).sz = 3 from rfl, Nat.mul_one, Nat.add_zero] at hf41_0)
                      clear hcl41 hcc41 hfr41 hM41
                      go_wp2_with (first | ((with_reducible refine gate_store (t := 9) (p := 82) rfl ?_); refine store_event (t := 9) (p := 82) (v := ?vo_w42) (w1 := (wr.setCell ⟨go39, (x20_3 : Int).toNat * 3, none⟩ (.string (⟨#[115, 112, 111, 105, 108, 116]⟩ : ByteArray)))) ?hg ?ho ?hn ?hr ?_; (case ho => rfl); (case hg => rfl); (case hn => rfl); (case hr => first | (go_simp; done) | (go_simp; rfl)); intro w42 hw; have hg : wr.grownBy w42 (some go39) := (by rw [hw]; exact HP41.2); have hp_ : Kd.R k37 37 w42 w.heap.size (fun k_ => some k_ ≠ (.slice Ao22 y254.length co22 : Value).ownBlock ∧ some k_ ≠ (v263 : Value).ownBlock) (.slice (some ⟨go39, 0, none⟩) x10_3.length co40) y276 := (by rw [hw, Ny276.out]; exact HP41.1); clear HP41; have n0_ := Aside0.mk (Kd.R_after (v := (.slice (some ⟨go39, 0, none⟩) x10_3.length co40)) (v1 := (.slice (some ⟨go39, 0, none⟩) x10_3.length co40)) (ok := (fun k_ => some k_ ≠ (v263 : Value).ownBlock)) (by (with_reducible repeat (first | apply Kd.R_alloc | apply Kd.R_drewN | apply Kd.R_drew)); exact Kd.R_mono HO_9.out (fun _ hk => ⟨hk.2, hk.1⟩)) hg (.inl rfl)); have n1_ := Aside0.mk (hp_); have n2_ := Aside0.mk (Kd.R_after (v := (.slice (some ⟨go39, 0, none⟩) x10_3.length co40)) (v1 := (.slice (some ⟨go39, 0, none⟩) x10_3.length co40)) (ok := (fun k_ => some k_ ≠ (.slice Ao22 y254.length co22 : Value).ownBlock)) (by (with_reducible repeat (first | apply Kd.R_alloc | apply Kd.R_drewN | apply Kd.R_drew)); exact HO_12.out) hg (.inl rfl)); have n3_ := Aside0.mk (blk_grown (g := gb248) (o := .cells #[.int .i64 a2_0, .int .i64 a2_1] 29 (0, 0)) (by (with_reducible repeat (first | refine blk_drewN ?_ _ | refine blk_drew ?_ | refine blk_alloc ?_ _)); exact BK248.out) hg (Kd.R_ne HO_10.out BK248.out (by decide))); have n4_ := Aside0.mk ((by rw [hw]; exact below_set (HB.out) GB39.out : Below w.heap.size w w42)); clear HO_9; clear HO_10; clear HO_12; clear BK248; clear HB; have HO_9 := n0_; have HO_10 := n1_; have HO_12 := n2_; have BK248 := n3_; have HB := n4_; clear n0_ n1_ n2_ n3_ n4_; clear hg hw hp_))
                      go_roundg k3
                      case measure => have := HJ5.out; have := HJ16.out; have := HK3.out; omega
                      case rel => exact ⟨(y276), (wrap64 (x20_3 + 1)), (by first | rfl | (simp; done) | (simp [*]; done)), H', ⟨by have := HJ5.out; have := HJ16.out; have := HK3.out; omega⟩, ⟨by (with_reducible repeat (first | apply Kd.R_alloc | apply Kd.R_drewN | apply Kd.R_drew)); exact Kd.R_mono HO_9.out (fun _ hk => ⟨hk.2, hk.1⟩)⟩, ⟨by (with_reducible repeat (first | apply Kd.R_alloc | apply Kd.R_drewN | apply Kd.R_drew)); exact HO_10.out⟩, ⟨by (with_reducible repeat (first | apply Kd.R_alloc | apply Kd.R_drewN | apply Kd.R_drew)); exact HO_12.out⟩, ⟨by (with_reducible repeat (first | refine blk_drewN ?_ _ | refine blk_drew ?_ | refine blk_alloc ?_ _)); exact BK248.out⟩, ⟨by repeat (first | (with_reducible first | exact HB.out | apply below_alloc | apply pw_below_drewN | apply below_drew1 | refine below_set ?_ GE248.out) | exact HB.out)⟩⟩
                    · rw [if_neg c38] at H
                      exact absurd H (by simp)
                  · rw [if_neg c37] at H
                    have c37b0 : decide (x20_3 < (x10_3.length : Int)) = false := decide_eq_false c37
                    clear c37
                    have H' := Aside0.mk H
                    clear H
                    obtain ⟨Ao43, co43, eo43⟩ := Kd.R_slice HO_10.out
                    subst eo43
                    go_wp2
                    go_loopg [21] k3 (fun kq v21 w' => ∃ (x12_4 : List (S37)) (x21_4 : Int), v21 = .int .i64 x21_4 ∧ Aside0 (joistlaw09_RootsTurns.l1 kq l0 t249 y254 t260 x12_4 t262 t268 t270 t273 x19_16 x21_4 = some r) ∧ Aside0 (kq ≤ k3) ∧ Aside0 (Kd.R k37 37 w' w.heap.size (fun k_ => some k_ ≠ (v263 : Value).ownBlock) (.slice Ao22 y254.length co22) y254) ∧ Aside0 (Kd.R k37 37 w' w.heap.size (fun k_ => some k_ ≠ ((.slice Ao22 y254.length co22) : Value).ownBlock) v263 x12_4) ∧ Aside0 (w'.heap[gb248]? = some (.cells #[.int .i64 a2_0, .int .i64 a2_1] 29 (0, 0))) ∧ Aside0 (Below w.heap.size w w'))
                    case atStart => exact ⟨(t261), (0), (by first | rfl | (simp; done) | (simp [*]; done)), H', ⟨Nat.le_refl _⟩, ⟨by (with_reducible repeat (first | apply Kd.R_alloc | apply Kd.R_drewN | apply Kd.R_drew)); exact Kd.R_mono HO_9.out (fun _ hk => hk.2)⟩, ⟨by (with_reducible repeat (first | apply Kd.R_alloc | apply Kd.R_drewN | apply Kd.R_drew)); exact Kd.R_mono HO_12.out (fun _ hk => hk.1)⟩, ⟨by (with_reducible repeat (first | refine blk_drewN ?_ _ | refine blk_drew ?_ | refine blk_alloc ?_ _)); exact BK248.out⟩, ⟨by repeat (first | (with_reducible first | exact HB.out | apply below_alloc | apply pw_below_drewN | apply below_drew1 | refine below_set ?_ GE248.out) | exact HB.out)⟩⟩
                    case round =>
                      clear H'
                      try clear c1
                      try clear c2
                      try clear p2
                      try clear c3
                      try clear p3
                      try clear q3
                      try clear hx3
                      try clear hf3
                      try clear c4
                      try clear hx4
                      try clear hf4
                      try clear p6
                      try clear c7
                      try clear c8
                      try clear c9
                      try clear c10
                      try clear c11
                      try clear c13
                      try clear c16
                      try clear c17
                      try clear c18
                      try clear c19
                      try clear c29
                      try clear c37
                      try clear c37b0
                      try clear c38
                      try clear c38b0
                      try clear c39
                      try clear p39
                      try clear q39
                      try clear hx39
                      try clear hf39
                      try clear c41
                      try clear hx41
                      try clear hf41
                      try clear hcz21_0
                      try clear hcz21_1
                      try clear hcz25_0
                      try clear hcz25_1
                      try clear hfz21_0
                      try clear hfz21_1
                      try clear hfz25_0
                      try clear hfz25_1
                      try clear hx39_0
                      try clear hx39_1
                      try clear hx39_2
                      try clear hx41_0
                      try clear p2
                      try clear p39
                      try clear q39
                      obtain ⟨x12_4, x21_4, rfl, HA, HK4, HO_9, HO_12, BK248, HB⟩ := hrel
                      cases gk with
                      | zero => exact absurd HA.out (by simp [joistlaw09_RootsTurns.l1])
                      | succ k4 =>
                        have H := HA.out
                        clear HA
                        simp only [joistlaw09_RootsTurns.l1] at H
                        by_cases c44 : x21_4 < (x12_4.length : Int)
                        · rw [if_pos c44] at H
                          have c44b0 : decide (x21_4 < (x12_4.length : Int)) = true := decide_eq_true c44
                          clear c44
                          by_cases c45 : 0 ≤ x21_4
                          · rw [if_pos c45] at H
                            have c45b0 : decide (0 ≤ x21_4) = true := decide_eq_true c45
                            clear c45
                            obtain ⟨y277, hy277⟩ : ∃ y_ : List (S37), y_ = (x12_4.set (x21_4 : Int).toNat (⟨(⟨#[115, 112, 111, 105, 108, 116]⟩ : ByteArray), (⟨(rd_T37 x12_4 x21_4).f1.f0, (rd_T37 x12_4 x21_4).f1.f1⟩ : S29)⟩ : S37)) := ⟨_, rfl⟩
                            replace H : (joistlaw09_RootsTurns.l1 k4 l0 t249 y254 t260 y277 t262 t268 t270 t273 x19_16 (wrap64 (x21_4 + 1))) = some r := by first | (rw [hy277]; with_reducible exact H) | (have H2_ := (Option.bind_some _ _).symm.trans H; rw [hy277]; with_reducible exact H2_) | (have H2_ := (Option.bind_some _ _).symm.trans H; with_reducible exact H2_) | with_reducible exact H | (rw [hy277]; exact H) | exact H
                            have Ny277 := Aside0.mk hy277
                            clear hy277
                            have H' := Aside0.mk H
                            clear H
                            obtain ⟨Ao47, co47, eo47⟩ := Kd.R_slice HO_12.out
                            subst eo47
                            have p46 : 0 ≤ (x21_4 : Int) := of_decide_eq_true (by first | (with_reducible assumption) | assumption)
                            have q46 : (x21_4 : Int) < ((x12_4.length : Int) : Int) := of_decide_eq_true (by first | (with_reducible assumption) | assumption)
                            obtain ⟨go46, co46, eo46, gb46, gl46, cl46, HG46⟩ := Kd.R_form HO_12.out (by omega)
                            (first | cases eo46 | (injection eo46 with ea_ en_ ec_; (first | subst ea_ | (injection ea_ with ea_; subst ea_)); subst ec_; clear en_))
                            have GB46 := Aside0.mk gb46
                            have GG46 := Aside0.mk HG46
                            clear gb46 gl46 HG46
                            obtain ⟨ce46, hcl46, hM46, hcc46, hfr46⟩ := Kd.R_elem HO_12.out z37 (x21_4 : Int) p46 q46
                            obtain rfl := k37_openM hM46
                            have hx46_0 : wr.cell? ⟨go46, (x21_4 : Int).toNat * 3, none⟩ = some (.string ((rd_T37 x12_4 x21_4).f0)) := hcc46 0 _ rfl
                            have hx46_1 : wr.cell? ⟨go46, (x21_4 : Int).toNat * 3 + 1, none⟩ = some (.int .i64 ((rd_T37 x12_4 x21_4).f1.f0)) := hcc46 1 _ rfl
                            have hx46_2 : wr.cell? ⟨go46, (x21_4 : Int).toNat * 3 + 2, none⟩ = some (.int .i64 ((rd_T37 x12_4 x21_4).f1.f1)) := hcc46 2 _ rfl
                            have hf46_0 : wr.frozen? ⟨go46, (x21_4 : Int).toNat * 3, none⟩ = false := hfr46 0
                            have hf46_1 : wr.frozen? ⟨go46, (x21_4 : Int).toNat * 3 + 1, none⟩ = false := hfr46 1
                            have hf46_2 : wr.frozen? ⟨go46, (x21_4 : Int).toNat * 3 + 2, none⟩ = false := hfr46 2
                            clear hcl46 hcc46 hfr46 hM46
                            replace p46 := eq_true p46
                            replace q46 := eq_true q46
                            have HX48 := Aside0.mk (show Kd.R k37 37 wr w.heap.size (fun k_ => some k_ ≠ (.slice Ao22 y254.length co22 : Value).ownBlock) (.slice (some ⟨go46, 0, none⟩) x12_4.length co47) x12_4 from (by (with_reducible repeat (first | apply Kd.R_alloc | apply Kd.R_drewN | apply Kd.R_drew)); exact HO_12.out))
                            obtain ⟨ce48, hcl48, hM48, hcc48, hfr48⟩ := Kd.R_elem HX48.out z37 (x21_4 : Int) (of_decide_eq_true (by first | (with_reducible assumption) | assumption)) (by have h_ : (x21_4 : Int) < ((x12_4.length : Int) : Int) := of_decide_eq_true (by first | (with_reducible assumption) | assumption); first | exact h_ | (have e_ := (Kd.R_reads' HO_12.out).1; omega) | simpa using h_)
                            obtain rfl := k37_openM hM48
                            have HP48 := Kd.R_seg HX48.out (x21_4 : Int) (of_decide_eq_true (by first | (with_reducible assumption) | assumption)) (by have h_ : (x21_4 : Int) < ((x12_4.length : Int) : Int) := of_decide_eq_true (by first | (with_reducible assumption) | assumption); first | exact h_ | (have e_ := (Kd.R_reads' HO_12.out).1; omega) | simpa using h_) (seg := [.string (⟨#[115, 112, 111, 105, 108, 116]⟩ : ByteArray)]) (j := 0) hcl48 hcc48 (show 1 ≤ 3 from by decide) (x' := (⟨(⟨#[115, 112, 111, 105, 108, 116]⟩ : ByteArray), (⟨(rd_T37 x12_4 x21_4).f1.f0, (rd_T37 x12_4 x21_4).f1.f1⟩ : S29)⟩ : S37)) (k37_mkM _ _ _ (⟨(⟨#[115, 112, 111, 105, 108, 116]⟩ : ByteArray), (⟨(rd_T37 x12_4 x21_4).f1.f0, (rd_T37 x12_4 x21_4).f1.f1⟩ : S29)⟩ : S37) ) (fun _ hk => hk)
                            have hx48_0 := hcc48 0 _ rfl
                            (try simp only [show (k37).sz = 3 from rfl, Nat.mul_one, Nat.add_zero] at hx48_0)
                            have hf48_0 := hfr48 0
                            (try simp only [show (k37).sz = 3 from rfl, Nat.mul_one, Nat.add_zero] at hf48_0)
                            clear hcl48 hcc48 hfr48 hM48
                            go_wp2_with (first | ((with_reducible refine gate_store (t := 9) (p := 92) rfl ?_); refine store_event (t := 9) (p := 92) (v := ?vo_w49) (w1 := (wr.setCell ⟨go46, (x21_4 : Int).toNat * 3, none⟩ (.string (⟨#[115, 112, 111, 105, 108, 116]⟩ : ByteArray)))) ?hg ?ho ?hn ?hr ?_; (case ho => rfl); (case hg => rfl); (case hn => rfl); (case hr => first | (go_simp; done) | (go_simp; rfl)); intro w49 hw; have hg : wr.grownBy w49 (some go46) := (by rw [hw]; exact HP48.2); have hp_ : Kd.R k37 37 w49 w.heap.size (fun k_ => some k_ ≠ (.slice Ao22 y254.length co22 : Value).ownBlock) (.slice (some ⟨go46, 0, none⟩) x12_4.length co47) y277 := (by rw [hw, Ny277.out]; exact HP48.1); clear HP48; have n0_ := Aside0.mk (Kd.R_after (v := (.slice (some ⟨go46, 0, none⟩) x12_4.length co47)) (v1 := (.slice (some ⟨go46, 0, none⟩) x12_4.length co47)) (ok := (fun _ => True)) (by (with_reducible repeat (first | apply Kd.R_alloc | apply Kd.R_drewN | apply Kd.R_drew)); exact Kd.R_mono HO_9.out (fun _ hk => ⟨trivial, hk⟩)) hg (.inl rfl)); have n1_ := Aside0.mk (hp_); have n2_ := Aside0.mk (blk_grown (g := gb248) (o := .cells #[.int .i64 a2_0, .int .i64 a2_1] 29 (0, 0)) (by (with_reducible repeat (first | refine blk_drewN ?_ _ | refine blk_drew ?_ | refine blk_alloc ?_ _)); exact BK248.out) hg (Kd.R_ne HO_12.out BK248.out (by decide))); have n3_ := Aside0.mk ((by rw [hw]; exact below_set (HB.out) GB46.out : Below w.heap.size w w49)); clear HO_9; clear HO_12; clear BK248; clear HB; have HO_9 := n0_; have HO_12 := n1_; have BK248 := n2_; have HB := n3_; clear n0_ n1_ n2_ n3_; clear hg hw hp_))
                            go_roundg k4
                            case measure => have := HJ5.out; have := HJ16.out; have := HK3.out; have := HK4.out; omega
                            case rel => exact ⟨(y277), (wrap64 (x21_4 + 1)), (by first | rfl | (simp; done) | (simp [*]; done)), H', ⟨by have := HJ5.out; have := HJ16.out; have := HK3.out; have := HK4.out; omega⟩, ⟨by (with_reducible repeat (first | apply Kd.R_alloc | apply Kd.R_drewN | apply Kd.R_drew)); exact Kd.R_mono HO_9.out (fun _ hk => hk.2)⟩, ⟨by (with_reducible repeat (first | apply Kd.R_alloc | apply Kd.R_drewN | apply Kd.R_drew)); exact HO_12.out⟩, ⟨by (with_reducible repeat (first | refine blk_drewN ?_ _ | refine blk_drew ?_ | refine blk_alloc ?_ _)); exact BK248.out⟩, ⟨by repeat (first | (with_reducible first | exact HB.out | apply below_alloc | apply pw_below_drewN | apply below_drew1 | refine below_set ?_ GE248.out) | exact HB.out)⟩⟩
                          · rw [if_neg c45] at H
                            exact absurd H (by simp)
                        · rw [if_neg c44] at H
                          have c44b0 : decide (x21_4 < (x12_4.length : Int)) = false := decide_eq_false c44
                          clear c44
                          by_cases c50 : t249 = true
                          · subst c50
                            have H1 : (if t273 = true then (if x19_16 = true then ((joistref09_Same.f k4 y254 l0).bind fun t278 => (if t278 = true then (if t260 = t268 then (some (t262 == t270)) else (some false)) else (some false))) else (some false)) else (some false)) = some r := by rw [if_pos rfl] at H; exact H
                            clear H
                            have H := H1
                            clear H1
                            by_cases c51 : t273 = true
                            · subst c51
                              have H1 : (if x19_16 = true then ((joistref09_Same.f k4 y254 l0).bind fun t278 => (if t278 = true then (if t260 = t268 then (some (t262 == t270)) else (some false)) else (some false))) else (some false)) = some r := by rw [if_pos rfl] at H; exact H
                              clear H
                              have H := H1
                              clear H1
                              by_cases c52 : x19_16 = true
                              · subst c52
                                have H1 : ((joistref09_Same.f k4 y254 l0).bind fun t278 => (if t278 = true then (if t260 = t268 then (some (t262 == t270)) else (some false)) else (some false))) = some r := by rw [if_pos rfl] at H; exact H
                                clear H
                                have H := H1
                                clear H1
                                replace H := Option.bind_eq_some_iff.mp H
                                obtain ⟨t278, A530, H⟩ := H
                                replace H : (if t278 = true then (if t260 = t268 then (some (t262 == t270)) else (some false)) else (some false)) = some r := H
                                have A53 := Aside0.mk A530
                                clear A530
                                by_cases c54 : t278 = true
                                · subst c54
                                  have H1 : (if t260 = t268 then (some (t262 == t270)) else (some false)) = some r := by rw [if_pos rfl] at H; exact H
                                  clear H
                                  have H := H1
                                  clear H1
                                  by_cases c55 : t260 = t268
                                  · rw [if_pos c55] at H
                                    have c55b0 : (t260 == t268) = true := beq_iff_eq.mpr c55
                                    have c55b1 : (t260 != t268) = false := bne_eq_false_iff_eq.mpr c55
                                    clear c55
                                    obtain rfl := Option.some.inj H
                                    obtain ⟨Ao56, co56, eo56⟩ := Kd.R_slice HO_12.out
                                    subst eo56
                                    go_wp2_with (first | (go_at_call 13; (with_reducible refine (joistref09_Same.calls k4 _ _ y254 _ _ l0 true _ ?side1 ?side2 ?side3 ?side4 A53.out).mono ?_); (case side1 => repeat (first | exact (Kd.R_reads' HO_9.out).2.2 | (with_reducible refine Kd.C_alloc ?_ _) | (with_reducible refine Kd.C_drewN ?_ _) | (with_reducible refine Kd.C_drew ?_))); (case side2 => exact (Kd.R_reads' HO_9.out).2.1); (case side3 => repeat (first | exact (Kd.C_below HR0.out HB.out) | (with_reducible refine Kd.C_alloc ?_ _) | (with_reducible refine Kd.C_drewN ?_ _) | (with_reducible refine Kd.C_drew ?_))); (case side4 => exact HC0.out); rintro e w' ⟨rfl, ⟨nd, rfl⟩⟩))
                                    go_ret
                                    exact ⟨by first | rfl | (simp [errW_none, errW_some] <;> rfl) | (simp [*, errW_none, errW_some] <;> rfl), by repeat (first | (with_reducible first | exact HB.out | apply below_alloc | apply pw_below_drewN | apply below_drew1 | refine below_set ?_ GE248.out) | exact HB.out)⟩
                                  · rw [if_neg c55] at H
                                    have c55b0 : (t260 == t268) = false := beq_eq_false_iff_ne.mpr c55
                                    have c55b1 : (t260 != t268) = true := bne_iff_ne.mpr c55
                                    obtain rfl := Option.some.inj H
                                    obtain ⟨Ao57, co57, eo57⟩ := Kd.R_slice HO_12.out
                                    subst eo57
                                    go_wp2_with (first | (go_at_call 13; (with_reducible refine (joistref09_Same.calls k4 _ _ y254 _ _ l0 true _ ?side1 ?side2 ?side3 ?side4 A53.out).mono ?_); (case side1 => repeat (first | exact (Kd.R_reads' HO_9.out).2.2 | (with_reducible refine Kd.C_alloc ?_ _) | (with_reducible refine Kd.C_drewN ?_ _) | (with_reducible refine Kd.C_drew ?_))); (case side2 => exact (Kd.R_reads' HO_9.out).2.1); (case side3 => repeat (first | exact (Kd.C_below HR0.out HB.out) | (with_reducible refine Kd.C_alloc ?_ _) | (with_reducible refine Kd.C_drewN ?_ _) | (with_reducible refine Kd.C_drew ?_))); (case side4 => exact HC0.out); rintro e w' ⟨rfl, ⟨nd, rfl⟩⟩))
                                    go_ret
                                    exact ⟨by first | rfl | (simp [errW_none, errW_some] <;> rfl) | (simp [*, errW_none, errW_some] <;> rfl), by repeat (first | (with_reducible first | exact HB.out | apply below_alloc | apply pw_below_drewN | apply below_drew1 | refine below_set ?_ GE248.out) | exact HB.out)⟩
                                · replace c54 := Bool.eq_false_iff.mpr c54
                                  subst c54
                                  have H1 : (some false) = some r := by rw [if_neg (show ¬ (false = true) by decide)] at H; exact H
                                  clear H
                                  have H := H1
                                  clear H1
                                  obtain rfl := Option.some.inj H
                                  obtain ⟨Ao58, co58, eo58⟩ := Kd.R_slice HO_12.out
                                  subst eo58
                                  go_wp2_with (first | (go_at_call 13; (with_reducible refine (joistref09_Same.calls k4 _ _ y254 _ _ l0 false _ ?side1 ?side2 ?side3 ?side4 A53.out).mono ?_); (case side1 => repeat (first | exact (Kd.R_reads' HO_9.out).2.2 | (with_reducible refine Kd.C_alloc ?_ _) | (with_reducible refine Kd.C_drewN ?_ _) | (with_reducible refine Kd.C_drew ?_))); (case side2 => exact (Kd.R_reads' HO_9.out).2.1); (case side3 => repeat (first | exact (Kd.C_below HR0.out HB.out) | (with_reducible refine Kd.C_alloc ?_ _) | (with_reducible refine Kd.C_drewN ?_ _) | (with_reducible refine Kd.C_drew ?_))); (case side4 => exact HC0.out); rintro e w' ⟨rfl, ⟨nd, rfl⟩⟩))
                                  go_ret
                                  exact ⟨by first | rfl | (simp [errW_none, errW_some] <;> rfl) | (simp [*, errW_none, errW_some] <;> rfl), by repeat (first | (with_reducible first | exact HB.out | apply below_alloc | apply pw_below_drewN | apply below_drew1 | refine below_set ?_ GE248.out) | exact HB.out)⟩
                              · replace c52 := Bool.eq_false_iff.mpr c52
                                subst c52
                                have H1 : (some false) = some r := by rw [if_neg (show ¬ (false = true) by decide)] at H; exact H
                                clear H
                                have H := H1
                                clear H1
                                obtain rfl := Option.some.inj H
                                obtain ⟨Ao59, co59, eo59⟩ := Kd.R_slice HO_12.out
                                subst eo59
                                go_wp2
                                go_ret
                                exact ⟨by first | rfl | (simp [errW_none, errW_some] <;> rfl) | (simp [*, errW_none, errW_some] <;> rfl), by repeat (first | (with_reducible first | exact HB.out | apply below_alloc | apply pw_below_drewN | apply below_drew1 | refine below_set ?_ GE248.out) | exact HB.out)⟩
                            · replace c51 := Bool.eq_false_iff.mpr c51
                              subst c51
                              have H1 : (some false) = some r := by rw [if_neg (show ¬ (false = true) by decide)] at H; exact H
                              clear H
                              have H := H1
                              clear H1
                              obtain rfl := Option.some.inj H
                              obtain ⟨Ao60, co60, eo60⟩ := Kd.R_slice HO_12.out
                              subst eo60
                              go_wp2
                              go_ret
                              exact ⟨by first | rfl | (simp [errW_none, errW_some] <;> rfl) | (simp [*, errW_none, errW_some] <;> rfl), by repeat (first | (with_reducible first | exact HB.out | apply below_alloc | apply pw_below_drewN | apply below_drew1 | refine below_set ?_ GE248.out) | exact HB.out)⟩
                          · replace c50 := Bool.eq_false_iff.mpr c50
                            subst c50
                            have H1 : (some false) = some r := by rw [if_neg (show ¬ (false = true) by decide)] at H; exact H
                            clear H
                            have H := H1
                            clear H1
                            obtain rfl := Option.some.inj H
                            obtain ⟨Ao61, co61, eo61⟩ := Kd.R_slice HO_12.out
                            subst eo61
                            go_wp2
                            go_ret
                            exact ⟨by first | rfl | (simp [errW_none, errW_some] <;> rfl) | (simp [*, errW_none, errW_some] <;> rfl), by repeat (first | (with_reducible first | exact HB.out | apply below_alloc | apply pw_below_drewN | apply below_drew1 | refine below_set ?_ GE248.out) | exact HB.out)⟩
        · rw [if_neg c11] at H
          exact absurd H (by simp)

end Go.Proofs.Ytlhemachmidoaaa.P
