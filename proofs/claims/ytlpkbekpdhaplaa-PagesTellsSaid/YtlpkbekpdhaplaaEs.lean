/- What the document's span returns (joistref13.span). -/
import Derived.Test.YtlpkbekpdhaplaaP11
import Derived.Test.YtlpkbekpdhaplaaP10
import Derived.WalkSpells
import Derived.Outline
import Derived.RegionTactic
import Derived.BigRegion
namespace Go.Proofs.Ytlpkbekpdhaplaa.P
open Go.RowKit Go.Proofs.YtlpkbekpdhaplaaW.PrintWords Go.Proofs.YtlpkbekpdhaplaaW.PrintLast Go.Proofs.YtlpkbekpdhaplaaW.PrintMore
set_option linter.unusedVariables false
set_option linter.unusedSimpArgs false

def spanOf (n a len : Int) (t : Int × Int × Int × Bool) : Int × Int × Bool :=
  if t.2.2.2 = true then (t.1, 1, decide (t.1 < n))
  else if 120 < len ∧ len ≤ 2048 ∧ 0 ≤ a ∧ a % 32 = 0 then (a / 32, (len + 255) / 256, decide (a / 32 ≤ n ∧ (len + 255) / 256 ≤ n - a / 32)) else (0, 0, false)
def joistref13_span.f (k : Nat) (a0 : Int) (a1_0 : Int) (a1_1 : Int) : Option (Int × Int × Bool) :=
  if 0 ≤ a0 ∧ a0 ≤ 64 ∧ a1_0 ≤ 9223372036854775807 then (joistref13_cell.f k a1_0 a1_1).map (spanOf a0 a1_0 a1_1) else none
theorem joistref13_span.mono (a0 a1 a2 : Int) (k : Nat) : LeO (joistref13_span.f k a0 a1 a2) (joistref13_span.f (k + 1) a0 a1 a2) := by
  unfold joistref13_span.f
  split
  · exact LeO.map _ (joistref13_cell.mono _ _ _)
  · intro r h; cases h
theorem pagesRef_is (len : Int) : joistref12_Pages.f len = some (if 120 < len ∧ len ≤ 2048 then ((len + 255) / 256, 0) else (0, 1)) := by
  unfold joistref12_Pages.f
  by_cases h : 120 < len ∧ len ≤ 2048
  · rw [if_neg (by omega), if_neg (by omega), if_pos h]
    have e1 : wrap64 (len + 256) = len + 256 := by unfold wrap64; omega
    have e2 : wrap64 (len + 256 - 1) = len + 255 := by unfold wrap64; omega
    rw [e1, e2, Int.tdiv_eq_ediv_of_nonneg (by omega)]
    congr 2
    unfold wrap64; omega
  · rw [if_neg h]
    by_cases h2 : len ≤ 120
    · rw [if_pos h2]
    · rw [if_neg h2, if_pos (by omega)]
theorem drawn0_le {w w' : World} (h : Drawn0 w w') : Below w.heap.size w w' := by
  obtain ⟨nd, rfl⟩ := h
  exact pw_below_drewN (Below.refl _ _) nd
set_option maxRecDepth 100000 in
set_option maxHeartbeats 1000000 in
theorem joistref13_span.calls (k : Nat) (a0 : Int) (a1_0 : Int) (a1_1 : Int) (r1 : Int) (r2 : Int) (r3 : Bool) (w : World) (h : joistref13_span.f k a0 a1_0 a1_1 = some (r1, r2, r3)) :
    Calls Try.prog 46 #[.int .i64 a0, .agg #[.int .i64 a1_0, .int .i64 a1_1]] w fun e w' => e = .returned (.tuple #[.agg #[.int .i64 r1, .int .i64 r2], .bool r3]) ∧ Below w.heap.size w w' := by
  unfold joistref13_span.f at h
  by_cases hd : 0 ≤ a0 ∧ a0 ≤ 64 ∧ a1_0 ≤ 9223372036854775807
  · rw [if_pos hd] at h
    obtain ⟨hd1, hd2, hd3⟩ := hd
    cases hc : joistref13_cell.f k a1_0 a1_1 with
    | none => rw [hc] at h; cases h
    | some t =>
      rw [hc] at h
      obtain ⟨t1, t2, t3, t4⟩ := t
      have h := Option.some.inj h
      unfold spanOf at h
      simp only at h
      have HCE := Aside0.mk hc
      have HPG := Aside0.mk (pagesRef_is a1_1)
      clear hc
      cases t4 with
      | true =>
        rw [if_pos rfl] at h
        simp only [Prod.mk.injEq] at h
        obtain ⟨rfl, rfl, rfl⟩ := h
        go_enter Try.func46, Try.ntmps46
        go_wp2_with (go_at_call 47; refine (joistref13_cell.calls k a1_0 a1_1 t1 t2 t3 true _ HCE.out).mono ?_; rintro e w2 ⟨rfl, hb⟩; have d3 := blk_below (blk_alloc (blk_new w (.cells #[.int .i64 a1_0, .int .i64 a1_1] 44)) (.cells #[.int .i64 0, .int .i64 0] 48)) hb; have d4 := blk_below (blk_new (w.alloc (.cells #[.int .i64 a1_0, .int .i64 a1_1] 44)) (.cells #[.int .i64 0, .int .i64 0] 48)) hb; rw [World.size_alloc] at d4; have c30 : w2.cell? ⟨w.heap.size, 0, none⟩ = some (.int .i64 a1_0) := (blk_cell d3 0).trans rfl; have c31 : w2.cell? ⟨w.heap.size, 1, none⟩ = some (.int .i64 a1_1) := (blk_cell d3 1).trans rfl; have c40 : w2.cell? ⟨w.heap.size + 1, 0, none⟩ = some (.int .i64 0) := (blk_cell d4 0).trans rfl; have c41 : w2.cell? ⟨w.heap.size + 1, 1, none⟩ = some (.int .i64 0) := (blk_cell d4 1).trans rfl; have f40 := blk_frozen d4 0; have f41 := blk_frozen d4 1; have HB := Aside0.mk (below_step (below_alloc (below_alloc (Below.refl w.heap.size w) _) _) hb); have D3 := Aside0.mk d3; have D4 := Aside0.mk d4; clear hb d4 d3)
        refine bodyPost_ret (results_ct rfl _ _ (w.heap.size + 1) 48 #[.int .i64 t1, .int .i64 1] (0, 0) _ rfl (by first | exact blk_put (blk_put D4.out 0 _ rfl) 1 _ rfl | exact blk_put (blk_put D4.out 1 _ rfl) 0 _ rfl) Try.underlying48 rfl (by kernel_rfl)) rfl ?_
        exact ⟨rfl, below_set (below_set HB.out (by omega)) (by omega)⟩
      | false =>
        rw [if_neg (by decide)] at h
        by_cases h1 : 120 < a1_1 ∧ a1_1 ≤ 2048
        · rw [if_pos h1] at HPG
          obtain ⟨h11, h12⟩ := h1
          by_cases h2 : 0 ≤ a1_0
          · by_cases h3 : a1_0 % 32 = 0
            · rw [if_pos ⟨h11, h12, h2, h3⟩] at h
              simp only [Prod.mk.injEq] at h
              obtain ⟨rfl, rfl, rfl⟩ := h
              have hb1 : 0 ≤ a1_0 / 32 := by omega
              have hb2 : a1_0 / 32 ≤ 288230376151711744 := by omega
              have hb3 : 0 ≤ (a1_1 + 255) / 256 := by omega
              have hb4 : (a1_1 + 255) / 256 ≤ 9 := by omega
              have hm : (a1_0 % 32 != 0) = false := by rw [h3]; rfl
              have hq : a1_0.tdiv 32 = a1_0 / 32 := Int.tdiv_eq_ediv_of_nonneg h2
              generalize (a1_1 + 255) / 256 = PP at HPG hb3 hb4 ⊢
              have hw : IntKind.i64.wrap (a0 - a1_0 / 32) = a0 - a1_0 / 32 := by rw [i64_w]; unfold wrap64; omega
              by_cases h4 : a1_0 / 32 ≤ a0
              · have k1 : decide (a1_0 / 32 ≤ a0) = true := decide_eq_true h4
                by_cases h5 : PP ≤ a0 - a1_0 / 32
                · have k2 : decide (PP ≤ a0 - a1_0 / 32) = true := decide_eq_true h5
                  rw [decide_eq_true (show a1_0 / 32 ≤ a0 ∧ PP ≤ a0 - a1_0 / 32 from ⟨h4, h5⟩)]
                  clear h3
                  go_enter Try.func46, Try.ntmps46
                  go_wp2_with (first | (go_at_call 47; refine (joistref13_cell.calls k a1_0 a1_1 t1 t2 t3 false _ HCE.out).mono ?_; rintro e w2 ⟨rfl, hb⟩; have d3 := blk_below (blk_alloc (blk_new w (.cells #[.int .i64 a1_0, .int .i64 a1_1] 44)) (.cells #[.int .i64 0, .int .i64 0] 48)) hb; have d4 := blk_below (blk_new (w.alloc (.cells #[.int .i64 a1_0, .int .i64 a1_1] 44)) (.cells #[.int .i64 0, .int .i64 0] 48)) hb; rw [World.size_alloc] at d4; have c30 : w2.cell? ⟨w.heap.size, 0, none⟩ = some (.int .i64 a1_0) := (blk_cell d3 0).trans rfl; have c31 : w2.cell? ⟨w.heap.size, 1, none⟩ = some (.int .i64 a1_1) := (blk_cell d3 1).trans rfl; have c40 : w2.cell? ⟨w.heap.size + 1, 0, none⟩ = some (.int .i64 0) := (blk_cell d4 0).trans rfl; have c41 : w2.cell? ⟨w.heap.size + 1, 1, none⟩ = some (.int .i64 0) := (blk_cell d4 1).trans rfl; have f40 := blk_frozen d4 0; have f41 := blk_frozen d4 1; have HB := Aside0.mk (below_step (below_alloc (below_alloc (Below.refl w.heap.size w) _) _) hb); have D3 := Aside0.mk d3; have D4 := Aside0.mk d4; clear hb d4 d3) | (go_at_call 22; refine (joistref12_Pages.calls a1_1 PP 0 _ HPG.out).mono ?_; rintro e w3 ⟨rfl, hd⟩; have hb := drawn0_le hd; have d3 := blk_below D3.out hb; have d4 := blk_below D4.out hb; have g4 := blk_lt d4; have c30 : w3.cell? ⟨w.heap.size, 0, none⟩ = some (.int .i64 a1_0) := (blk_cell d3 0).trans rfl; have c31 : w3.cell? ⟨w.heap.size, 1, none⟩ = some (.int .i64 a1_1) := (blk_cell d3 1).trans rfl; have c40 : w3.cell? ⟨w.heap.size + 1, 0, none⟩ = some (.int .i64 0) := (blk_cell d4 0).trans rfl; have c41 : w3.cell? ⟨w.heap.size + 1, 1, none⟩ = some (.int .i64 0) := (blk_cell d4 1).trans rfl; have f40 := blk_frozen d4 0; have f41 := blk_frozen d4 1; have HB3 := Aside0.mk (below_step HB.out hb); have E4 := Aside0.mk d4; clear hb hd d4 d3))
                  go_region
                  go_wp2
                  refine bodyPost_ret (results_ct rfl _ _ (w.heap.size + 1) 48 #[.int .i64 (a1_0 / 32), .int .i64 PP] (0, 0) _ rfl (blk_drew (blk_alloc (blk_put (blk_put E4.out 0 _ rfl) 1 _ rfl) _)) Try.underlying48 rfl (by kernel_rfl)) rfl ?_
                  exact ⟨rfl, below_drew (below_alloc (below_set (below_set HB3.out (by omega)) (by omega)) _)⟩
                · have k2 : decide (PP ≤ a0 - a1_0 / 32) = false := decide_eq_false h5
                  rw [decide_eq_false (show ¬ (a1_0 / 32 ≤ a0 ∧ PP ≤ a0 - a1_0 / 32) from fun z => h5 z.2)]
                  clear h3
                  go_enter Try.func46, Try.ntmps46
                  go_wp2_with (first | (go_at_call 47; refine (joistref13_cell.calls k a1_0 a1_1 t1 t2 t3 false _ HCE.out).mono ?_; rintro e w2 ⟨rfl, hb⟩; have d3 := blk_below (blk_alloc (blk_new w (.cells #[.int .i64 a1_0, .int .i64 a1_1] 44)) (.cells #[.int .i64 0, .int .i64 0] 48)) hb; have d4 := blk_below (blk_new (w.alloc (.cells #[.int .i64 a1_0, .int .i64 a1_1] 44)) (.cells #[.int .i64 0, .int .i64 0] 48)) hb; rw [World.size_alloc] at d4; have c30 : w2.cell? ⟨w.heap.size, 0, none⟩ = some (.int .i64 a1_0) := (blk_cell d3 0).trans rfl; have c31 : w2.cell? ⟨w.heap.size, 1, none⟩ = some (.int .i64 a1_1) := (blk_cell d3 1).trans rfl; have c40 : w2.cell? ⟨w.heap.size + 1, 0, none⟩ = some (.int .i64 0) := (blk_cell d4 0).trans rfl; have c41 : w2.cell? ⟨w.heap.size + 1, 1, none⟩ = some (.int .i64 0) := (blk_cell d4 1).trans rfl; have f40 := blk_frozen d4 0; have f41 := blk_frozen d4 1; have HB := Aside0.mk (below_step (below_alloc (below_alloc (Below.refl w.heap.size w) _) _) hb); have D3 := Aside0.mk d3; have D4 := Aside0.mk d4; clear hb d4 d3) | (go_at_call 22; refine (joistref12_Pages.calls a1_1 PP 0 _ HPG.out).mono ?_; rintro e w3 ⟨rfl, hd⟩; have hb := drawn0_le hd; have d3 := blk_below D3.out hb; have d4 := blk_below D4.out hb; have g4 := blk_lt d4; have c30 : w3.cell? ⟨w.heap.size, 0, none⟩ = some (.int .i64 a1_0) := (blk_cell d3 0).trans rfl; have c31 : w3.cell? ⟨w.heap.size, 1, none⟩ = some (.int .i64 a1_1) := (blk_cell d3 1).trans rfl; have c40 : w3.cell? ⟨w.heap.size + 1, 0, none⟩ = some (.int .i64 0) := (blk_cell d4 0).trans rfl; have c41 : w3.cell? ⟨w.heap.size + 1, 1, none⟩ = some (.int .i64 0) := (blk_cell d4 1).trans rfl; have f40 := blk_frozen d4 0; have f41 := blk_frozen d4 1; have HB3 := Aside0.mk (below_step HB.out hb); have E4 := Aside0.mk d4; clear hb hd d4 d3))
                  go_region
                  go_wp2
                  refine bodyPost_ret (results_ct rfl _ _ (w.heap.size + 1) 48 #[.int .i64 (a1_0 / 32), .int .i64 PP] (0, 0) _ rfl (blk_drew (blk_alloc (blk_put (blk_put E4.out 0 _ rfl) 1 _ rfl) _)) Try.underlying48 rfl (by kernel_rfl)) rfl ?_
                  exact ⟨rfl, below_drew (below_alloc (below_set (below_set HB3.out (by omega)) (by omega)) _)⟩
              · have k1 : decide (a1_0 / 32 ≤ a0) = false := decide_eq_false h4
                rw [decide_eq_false (show ¬ (a1_0 / 32 ≤ a0 ∧ PP ≤ a0 - a1_0 / 32) from fun z => h4 z.1)]
                clear h3
                go_enter Try.func46, Try.ntmps46
                go_wp2_with (first | (go_at_call 47; refine (joistref13_cell.calls k a1_0 a1_1 t1 t2 t3 false _ HCE.out).mono ?_; rintro e w2 ⟨rfl, hb⟩; have d3 := blk_below (blk_alloc (blk_new w (.cells #[.int .i64 a1_0, .int .i64 a1_1] 44)) (.cells #[.int .i64 0, .int .i64 0] 48)) hb; have d4 := blk_below (blk_new (w.alloc (.cells #[.int .i64 a1_0, .int .i64 a1_1] 44)) (.cells #[.int .i64 0, .int .i64 0] 48)) hb; rw [World.size_alloc] at d4; have c30 : w2.cell? ⟨w.heap.size, 0, none⟩ = some (.int .i64 a1_0) := (blk_cell d3 0).trans rfl; have c31 : w2.cell? ⟨w.heap.size, 1, none⟩ = some (.int .i64 a1_1) := (blk_cell d3 1).trans rfl; have c40 : w2.cell? ⟨w.heap.size + 1, 0, none⟩ = some (.int .i64 0) := (blk_cell d4 0).trans rfl; have c41 : w2.cell? ⟨w.heap.size + 1, 1, none⟩ = some (.int .i64 0) := (blk_cell d4 1).trans rfl; have f40 := blk_frozen d4 0; have f41 := blk_frozen d4 1; have HB := Aside0.mk (below_step (below_alloc (below_alloc (Below.refl w.heap.size w) _) _) hb); have D3 := Aside0.mk d3; have D4 := Aside0.mk d4; clear hb d4 d3) | (go_at_call 22; refine (joistref12_Pages.calls a1_1 PP 0 _ HPG.out).mono ?_; rintro e w3 ⟨rfl, hd⟩; have hb := drawn0_le hd; have d3 := blk_below D3.out hb; have d4 := blk_below D4.out hb; have g4 := blk_lt d4; have c30 : w3.cell? ⟨w.heap.size, 0, none⟩ = some (.int .i64 a1_0) := (blk_cell d3 0).trans rfl; have c31 : w3.cell? ⟨w.heap.size, 1, none⟩ = some (.int .i64 a1_1) := (blk_cell d3 1).trans rfl; have c40 : w3.cell? ⟨w.heap.size + 1, 0, none⟩ = some (.int .i64 0) := (blk_cell d4 0).trans rfl; have c41 : w3.cell? ⟨w.heap.size + 1, 1, none⟩ = some (.int .i64 0) := (blk_cell d4 1).trans rfl; have f40 := blk_frozen d4 0; have f41 := blk_frozen d4 1; have HB3 := Aside0.mk (below_step HB.out hb); have E4 := Aside0.mk d4; clear hb hd d4 d3))
                go_region
                go_wp2
                refine bodyPost_ret (results_ct rfl _ _ (w.heap.size + 1) 48 #[.int .i64 (a1_0 / 32), .int .i64 PP] (0, 0) _ rfl (blk_drew (blk_alloc (blk_put (blk_put E4.out 0 _ rfl) 1 _ rfl) _)) Try.underlying48 rfl (by kernel_rfl)) rfl ?_
                exact ⟨rfl, below_drew (below_alloc (below_set (below_set HB3.out (by omega)) (by omega)) _)⟩
            · rw [if_neg (fun z => h3 z.2.2.2)] at h
              simp only [Prod.mk.injEq] at h
              obtain ⟨rfl, rfl, rfl⟩ := h
              have hm : (a1_0 % 32 != 0) = true := bne_iff_ne.2 h3
              generalize (a1_1 + 255) / 256 = PP at HPG
              clear h3
              go_enter Try.func46, Try.ntmps46
              go_wp2_with (first | (go_at_call 47; refine (joistref13_cell.calls k a1_0 a1_1 t1 t2 t3 false _ HCE.out).mono ?_; rintro e w2 ⟨rfl, hb⟩; have d3 := blk_below (blk_alloc (blk_new w (.cells #[.int .i64 a1_0, .int .i64 a1_1] 44)) (.cells #[.int .i64 0, .int .i64 0] 48)) hb; have d4 := blk_below (blk_new (w.alloc (.cells #[.int .i64 a1_0, .int .i64 a1_1] 44)) (.cells #[.int .i64 0, .int .i64 0] 48)) hb; rw [World.size_alloc] at d4; have c30 : w2.cell? ⟨w.heap.size, 0, none⟩ = some (.int .i64 a1_0) := (blk_cell d3 0).trans rfl; have c31 : w2.cell? ⟨w.heap.size, 1, none⟩ = some (.int .i64 a1_1) := (blk_cell d3 1).trans rfl; have c40 : w2.cell? ⟨w.heap.size + 1, 0, none⟩ = some (.int .i64 0) := (blk_cell d4 0).trans rfl; have c41 : w2.cell? ⟨w.heap.size + 1, 1, none⟩ = some (.int .i64 0) := (blk_cell d4 1).trans rfl; have f40 := blk_frozen d4 0; have f41 := blk_frozen d4 1; have HB := Aside0.mk (below_step (below_alloc (below_alloc (Below.refl w.heap.size w) _) _) hb); have D3 := Aside0.mk d3; have D4 := Aside0.mk d4; clear hb d4 d3) | (go_at_call 22; refine (joistref12_Pages.calls a1_1 PP 0 _ HPG.out).mono ?_; rintro e w3 ⟨rfl, hd⟩; have hb := drawn0_le hd; have d3 := blk_below D3.out hb; have d4 := blk_below D4.out hb; have g4 := blk_lt d4; have c30 : w3.cell? ⟨w.heap.size, 0, none⟩ = some (.int .i64 a1_0) := (blk_cell d3 0).trans rfl; have c31 : w3.cell? ⟨w.heap.size, 1, none⟩ = some (.int .i64 a1_1) := (blk_cell d3 1).trans rfl; have c40 : w3.cell? ⟨w.heap.size + 1, 0, none⟩ = some (.int .i64 0) := (blk_cell d4 0).trans rfl; have c41 : w3.cell? ⟨w.heap.size + 1, 1, none⟩ = some (.int .i64 0) := (blk_cell d4 1).trans rfl; have f40 := blk_frozen d4 0; have f41 := blk_frozen d4 1; have HB3 := Aside0.mk (below_step HB.out hb); have E4 := Aside0.mk d4; clear hb hd d4 d3))
              refine bodyPost_ret (results_ct rfl _ _ (w.heap.size + 1) 48 #[.int .i64 0, .int .i64 0] (0, 0) _ rfl (by first | exact blk_put (blk_put E4.out 0 _ rfl) 1 _ rfl | exact blk_put (blk_put E4.out 1 _ rfl) 0 _ rfl | exact E4.out) Try.underlying48 rfl (by kernel_rfl)) rfl ?_
              exact ⟨rfl, by first | exact below_set (below_set HB3.out (by omega)) (by omega) | exact HB3.out⟩
          · rw [if_neg (fun z => h2 z.2.2.1)] at h
            simp only [Prod.mk.injEq] at h
            obtain ⟨rfl, rfl, rfl⟩ := h
            generalize (a1_1 + 255) / 256 = PP at HPG
            have h2' : a1_0 < 0 := by omega
            clear h2
            go_enter Try.func46, Try.ntmps46
            go_wp2_with (first | (go_at_call 47; refine (joistref13_cell.calls k a1_0 a1_1 t1 t2 t3 false _ HCE.out).mono ?_; rintro e w2 ⟨rfl, hb⟩; have d3 := blk_below (blk_alloc (blk_new w (.cells #[.int .i64 a1_0, .int .i64 a1_1] 44)) (.cells #[.int .i64 0, .int .i64 0] 48)) hb; have d4 := blk_below (blk_new (w.alloc (.cells #[.int .i64 a1_0, .int .i64 a1_1] 44)) (.cells #[.int .i64 0, .int .i64 0] 48)) hb; rw [World.size_alloc] at d4; have c30 : w2.cell? ⟨w.heap.size, 0, none⟩ = some (.int .i64 a1_0) := (blk_cell d3 0).trans rfl; have c31 : w2.cell? ⟨w.heap.size, 1, none⟩ = some (.int .i64 a1_1) := (blk_cell d3 1).trans rfl; have c40 : w2.cell? ⟨w.heap.size + 1, 0, none⟩ = some (.int .i64 0) := (blk_cell d4 0).trans rfl; have c41 : w2.cell? ⟨w.heap.size + 1, 1, none⟩ = some (.int .i64 0) := (blk_cell d4 1).trans rfl; have f40 := blk_frozen d4 0; have f41 := blk_frozen d4 1; have HB := Aside0.mk (below_step (below_alloc (below_alloc (Below.refl w.heap.size w) _) _) hb); have D3 := Aside0.mk d3; have D4 := Aside0.mk d4; clear hb d4 d3) | (go_at_call 22; refine (joistref12_Pages.calls a1_1 PP 0 _ HPG.out).mono ?_; rintro e w3 ⟨rfl, hd⟩; have hb := drawn0_le hd; have d3 := blk_below D3.out hb; have d4 := blk_below D4.out hb; have g4 := blk_lt d4; have c30 : w3.cell? ⟨w.heap.size, 0, none⟩ = some (.int .i64 a1_0) := (blk_cell d3 0).trans rfl; have c31 : w3.cell? ⟨w.heap.size, 1, none⟩ = some (.int .i64 a1_1) := (blk_cell d3 1).trans rfl; have c40 : w3.cell? ⟨w.heap.size + 1, 0, none⟩ = some (.int .i64 0) := (blk_cell d4 0).trans rfl; have c41 : w3.cell? ⟨w.heap.size + 1, 1, none⟩ = some (.int .i64 0) := (blk_cell d4 1).trans rfl; have f40 := blk_frozen d4 0; have f41 := blk_frozen d4 1; have HB3 := Aside0.mk (below_step HB.out hb); have E4 := Aside0.mk d4; clear hb hd d4 d3))
            refine bodyPost_ret (results_ct rfl _ _ (w.heap.size + 1) 48 #[.int .i64 0, .int .i64 0] (0, 0) _ rfl (by first | exact blk_put (blk_put E4.out 0 _ rfl) 1 _ rfl | exact blk_put (blk_put E4.out 1 _ rfl) 0 _ rfl | exact E4.out) Try.underlying48 rfl (by kernel_rfl)) rfl ?_
            exact ⟨rfl, by first | exact below_set (below_set HB3.out (by omega)) (by omega) | exact HB3.out⟩
        · rw [if_neg h1] at HPG
          rw [if_neg (fun z => h1 ⟨z.1, z.2.1⟩)] at h
          simp only [Prod.mk.injEq] at h
          obtain ⟨rfl, rfl, rfl⟩ := h
          clear h1
          go_enter Try.func46, Try.ntmps46
          go_wp2_with (first | (go_at_call 47; refine (joistref13_cell.calls k a1_0 a1_1 t1 t2 t3 false _ HCE.out).mono ?_; rintro e w2 ⟨rfl, hb⟩; have d3 := blk_below (blk_alloc (blk_new w (.cells #[.int .i64 a1_0, .int .i64 a1_1] 44)) (.cells #[.int .i64 0, .int .i64 0] 48)) hb; have d4 := blk_below (blk_new (w.alloc (.cells #[.int .i64 a1_0, .int .i64 a1_1] 44)) (.cells #[.int .i64 0, .int .i64 0] 48)) hb; rw [World.size_alloc] at d4; have c30 : w2.cell? ⟨w.heap.size, 0, none⟩ = some (.int .i64 a1_0) := (blk_cell d3 0).trans rfl; have c31 : w2.cell? ⟨w.heap.size, 1, none⟩ = some (.int .i64 a1_1) := (blk_cell d3 1).trans rfl; have c40 : w2.cell? ⟨w.heap.size + 1, 0, none⟩ = some (.int .i64 0) := (blk_cell d4 0).trans rfl; have c41 : w2.cell? ⟨w.heap.size + 1, 1, none⟩ = some (.int .i64 0) := (blk_cell d4 1).trans rfl; have f40 := blk_frozen d4 0; have f41 := blk_frozen d4 1; have HB := Aside0.mk (below_step (below_alloc (below_alloc (Below.refl w.heap.size w) _) _) hb); have D3 := Aside0.mk d3; have D4 := Aside0.mk d4; clear hb d4 d3) | (go_at_call 22; refine (joistref12_Pages.calls a1_1 0 1 _ HPG.out).mono ?_; rintro e w3 ⟨rfl, hd⟩; have hb := drawn0_le hd; have d3 := blk_below D3.out hb; have d4 := blk_below D4.out hb; have g4 := blk_lt d4; have c30 : w3.cell? ⟨w.heap.size, 0, none⟩ = some (.int .i64 a1_0) := (blk_cell d3 0).trans rfl; have c31 : w3.cell? ⟨w.heap.size, 1, none⟩ = some (.int .i64 a1_1) := (blk_cell d3 1).trans rfl; have c40 : w3.cell? ⟨w.heap.size + 1, 0, none⟩ = some (.int .i64 0) := (blk_cell d4 0).trans rfl; have c41 : w3.cell? ⟨w.heap.size + 1, 1, none⟩ = some (.int .i64 0) := (blk_cell d4 1).trans rfl; have f40 := blk_frozen d4 0; have f41 := blk_frozen d4 1; have HB3 := Aside0.mk (below_step HB.out hb); have E4 := Aside0.mk d4; clear hb hd d4 d3))
          refine bodyPost_ret (results_ct rfl _ _ (w.heap.size + 1) 48 #[.int .i64 0, .int .i64 0] (0, 0) _ rfl (by first | exact blk_put (blk_put E4.out 0 _ rfl) 1 _ rfl | exact blk_put (blk_put E4.out 1 _ rfl) 0 _ rfl | exact E4.out) Try.underlying48 rfl (by kernel_rfl)) rfl ?_
          exact ⟨rfl, by first | exact below_set (below_set HB3.out (by omega)) (by omega) | exact HB3.out⟩
  · rw [if_neg hd] at h; cases h
end Go.Proofs.Ytlpkbekpdhaplaa.P
