-- Printed by wip/tools/pp.py.
import Derived.Test.YtlhemachmidoaaaDoorP0
import Derived.Test.YtlhemachmidoaaaDoorP7
namespace Go.Proofs.YtlhemachmidoaaaDoor.P
open Go.RowKit Go.Proofs.YtlhemachmidoaaaDoorW.PrintWords Go.Proofs.YtlhemachmidoaaaDoorW.PrintLast Go.Proofs.YtlhemachmidoaaaDoorW.PrintMore
attribute [local go_sem] max2_int min2_int max_two min_two max_three min_three max_four min_four   -- for this text's walks alone
set_option linter.unusedVariables false
set_option linter.unusedSimpArgs false

/-! ### joistref06_Fold: function 14 -/
def joistref06_Fold.l0 : Nat → ByteArray → ByteArray → Option (ByteArray)
  | 0, _, _ => none
  | k + 1, x0, x3 => if (x0.size : Int) > 0 then ((joistref06_runeOf.f k x0).bind fun bt120 => (if bt120.2 = 0 then (if x3.size + 3 ≤ 9223372036854775807 then (if 1 ≤ (x0.size : Int) then (joistref06_Fold.l0 k (x0.extract 1 x0.size) (x3 ++ (⟨#[239, 191, 189]⟩ : ByteArray))) else (none)) else (none)) else (if 0 < (x0.size : Int) then (if (bt x0 0) ≥ 97 then (if (bt x0 0) ≤ 122 then ((some (([((bt x0 0) - 32) % 256] : List Int) : List Int)).bind fun y122 => (if x3.size + (strOfNums y122).size ≤ 9223372036854775807 then (if 0 ≤ bt120.2 then (if bt120.2 ≤ (x0.size : Int) then (joistref06_Fold.l0 k (x0.extract (bt120.2 : Int).toNat x0.size) (x3 ++ (strOfNums y122))) else (none)) else (none)) else (none))) else (if 0 ≤ bt120.2 then (if bt120.2 ≤ (x0.size : Int) then (if x3.size + (x0.extract 0 (bt120.2 : Int).toNat).size ≤ 9223372036854775807 then (joistref06_Fold.l0 k (x0.extract (bt120.2 : Int).toNat x0.size) (x3 ++ (x0.extract 0 (bt120.2 : Int).toNat))) else (none)) else (none)) else (none))) else (if 0 ≤ bt120.2 then (if bt120.2 ≤ (x0.size : Int) then (if x3.size + (x0.extract 0 (bt120.2 : Int).toNat).size ≤ 9223372036854775807 then (joistref06_Fold.l0 k (x0.extract (bt120.2 : Int).toNat x0.size) (x3 ++ (x0.extract 0 (bt120.2 : Int).toNat))) else (none)) else (none)) else (none))) else (none)))) else (some x3)
def joistref06_Fold.f (k : Nat) (a0 : ByteArray) : Option (ByteArray) := joistref06_Fold.l0 k a0 (⟨#[]⟩ : ByteArray)
theorem joistref06_Fold.mono_l : ∀ k, (∀ y0 y1, LeO (joistref06_Fold.l0 k y0 y1) (joistref06_Fold.l0 (k + 1) y0 y1))
  | 0 => fun _ _ r h => by simp [joistref06_Fold.l0] at h
  | k + 1 => by
    have ih0 := joistref06_Fold.mono_l k
    · intro y0 y1
      unfold joistref06_Fold.l0
      repeat' first
      | (with_reducible exact ih0 _ _)
      | (with_reducible exact joistref06_runeOf.mono _ _)
      | (with_reducible exact LeO.refl _)
      | (with_reducible exact LeO.none _)
      | (with_reducible refine LeO.ite ?_ ?_)
      | (with_reducible refine LeO.bind ?_ (fun _ => ?_))
      | exact ih0 _ _
      | exact joistref06_runeOf.mono _ _
      | exact LeO.none _
      | refine LeO.ite ?_ ?_
      | refine LeO.bind ?_ (fun _ => ?_)
theorem joistref06_Fold.mono : ∀ a0 k, LeO (joistref06_Fold.f k a0) (joistref06_Fold.f (k + 1) a0) := by
  intro a0 k
  have ih0 := joistref06_Fold.mono_l k
  unfold joistref06_Fold.f
  repeat' first
      | (with_reducible exact ih0 _ _)
      | (with_reducible exact joistref06_runeOf.mono _ _)
      | (with_reducible exact LeO.refl _)
      | (with_reducible exact LeO.none _)
      | (with_reducible refine LeO.ite ?_ ?_)
      | (with_reducible refine LeO.bind ?_ (fun _ => ?_))
      | exact ih0 _ _
      | exact joistref06_runeOf.mono _ _
      | exact LeO.none _
      | refine LeO.ite ?_ ?_
      | refine LeO.bind ?_ (fun _ => ?_)
set_option maxHeartbeats 8000000 in
set_option maxRecDepth 100000 in
theorem joistref06_Fold.calls (k : Nat) (a0 : ByteArray) (r : ByteArray) (w : World) (h : joistref06_Fold.f k a0 = some r) :
    Calls Tryd.prog 14 #[.string a0] w fun e w' => e = .returned (.string r) ∧ Below w.heap.size w w' := by
  have HB := Aside0.mk (Below.refl w.heap.size w)
  have H : (joistref06_Fold.l0 k a0 (⟨#[]⟩ : ByteArray)) = some r := h
  clear h
  have H' := Aside0.mk H
  clear H
  go_enter Tryd.func14, Tryd.ntmps14
  go_wp2
  go_loopg [0, 3] k (fun kq v0 v3 w' => ∃ (x0_1 : ByteArray) (x3_1 : ByteArray), v0 = .string x0_1 ∧ v3 = .string x3_1 ∧ Aside0 (joistref06_Fold.l0 kq x0_1 x3_1 = some r) ∧ Aside0 (kq ≤ k) ∧ Aside0 (Below w.heap.size w w'))
  case atStart => exact ⟨(a0), ((⟨#[]⟩ : ByteArray)), (by first | rfl | (simp; done) | (simp [*]; done)), (by first | rfl | (simp; done) | (simp [*]; done)), H', ⟨Nat.le_refl _⟩, ⟨by repeat (first | (with_reducible first | exact HB.out | apply below_alloc | apply pw_below_drewN | apply below_drew1) | exact HB.out)⟩⟩
  case round =>
    clear H'
    try clear c1
    obtain ⟨x0_1, x3_1, rfl, rfl, HA, HK1, HB⟩ := hrel
    cases gk with
    | zero => exact absurd HA.out (by simp [joistref06_Fold.l0])
    | succ k1 =>
      have H := HA.out
      clear HA
      simp only [joistref06_Fold.l0] at H
      by_cases c2 : (x0_1.size : Int) > 0
      · rw [if_pos c2] at H
        have c2b0 : decide (0 < (x0_1.size : Int)) = true := decide_eq_true c2
        have c2b1 : decide (0 < x0_1.size) = true := decide_eq_true (by omega)
        clear c2
        replace H := Option.bind_eq_some_iff.mp H
        obtain ⟨⟨t120, t121⟩, A30, H⟩ := H
        replace H : (if t121 = 0 then (if x3_1.size + 3 ≤ 9223372036854775807 then (if 1 ≤ (x0_1.size : Int) then (joistref06_Fold.l0 k1 (x0_1.extract 1 x0_1.size) (x3_1 ++ (⟨#[239, 191, 189]⟩ : ByteArray))) else (none)) else (none)) else (if 0 < (x0_1.size : Int) then (if (bt x0_1 0) ≥ 97 then (if (bt x0_1 0) ≤ 122 then ((some (([((bt x0_1 0) - 32) % 256] : List Int) : List Int)).bind fun y122 => (if x3_1.size + (strOfNums y122).size ≤ 9223372036854775807 then (if 0 ≤ t121 then (if t121 ≤ (x0_1.size : Int) then (joistref06_Fold.l0 k1 (x0_1.extract (t121 : Int).toNat x0_1.size) (x3_1 ++ (strOfNums y122))) else (none)) else (none)) else (none))) else (if 0 ≤ t121 then (if t121 ≤ (x0_1.size : Int) then (if x3_1.size + (x0_1.extract 0 (t121 : Int).toNat).size ≤ 9223372036854775807 then (joistref06_Fold.l0 k1 (x0_1.extract (t121 : Int).toNat x0_1.size) (x3_1 ++ (x0_1.extract 0 (t121 : Int).toNat))) else (none)) else (none)) else (none))) else (if 0 ≤ t121 then (if t121 ≤ (x0_1.size : Int) then (if x3_1.size + (x0_1.extract 0 (t121 : Int).toNat).size ≤ 9223372036854775807 then (joistref06_Fold.l0 k1 (x0_1.extract (t121 : Int).toNat x0_1.size) (x3_1 ++ (x0_1.extract 0 (t121 : Int).toNat))) else (none)) else (none)) else (none))) else (none))) = some r := H
        have A3 := Aside0.mk A30
        clear A30
        by_cases c4 : t121 = 0
        · rw [if_pos c4] at H
          have c4b0 : (t121 == 0) = true := beq_iff_eq.mpr c4
          have c4b1 : (t121 != 0) = false := bne_eq_false_iff_eq.mpr c4
          clear c4
          by_cases c5 : x3_1.size + 3 ≤ 9223372036854775807
          · rw [if_pos c5] at H
            have c5b0 := eq_true c5
            have c5b1 : decide (x3_1.size + 3 ≤ 9223372036854775807) = true := decide_eq_true c5
            try have c5b2 : (9223372036854775807 < x3_1.size + 3) = False := eq_false (Nat.not_lt.2 c5)
            by_cases c6 : 1 ≤ (x0_1.size : Int)
            · rw [if_pos c6] at H
              have c6b0 := eq_true c6
              have c6b1 : decide (1 ≤ (x0_1.size : Int)) = true := decide_eq_true c6
              clear c6
              have H' := Aside0.mk H
              clear H
              go_wp2_with (first | ((with_reducible refine gate_callee (f := 31) rfl ?_); refine goesL_ (some 11) rfl rfl Tryd.func31 (by kernel_rfl) rfl #[.string x0_1] rfl (by (try simp only [List.map_toArray, List.map_cons, List.map_nil]); first | done | rfl | (simp only [List.length_drop, List.length_take]; rfl)) ?_; (with_reducible refine (joistref06_runeOf.calls k1 x0_1 t120 t121 _ A3.out).mono ?_); rintro e w' ⟨rfl, ⟨nd, rfl⟩⟩; refine ⟨_, rfl, ?_⟩))
              go_roundg k1
              case measure => have := HK1.out; omega
              case rel => exact ⟨(x0_1.extract 1 x0_1.size), (x3_1 ++ (⟨#[239, 191, 189]⟩ : ByteArray)), (by first | rfl | (simp; done) | (simp [*]; done)), (by first | rfl | (simp; done) | (simp [*]; done)), H', ⟨by have := HK1.out; omega⟩, ⟨by repeat (first | (with_reducible first | exact HB.out | apply below_alloc | apply pw_below_drewN | apply below_drew1) | exact HB.out)⟩⟩
            · rw [if_neg c6] at H
              exact absurd H (by simp)
          · rw [if_neg c5] at H
            exact absurd H (by simp)
        · rw [if_neg c4] at H
          have c4b0 : (t121 == 0) = false := beq_eq_false_iff_ne.mpr c4
          have c4b1 : (t121 != 0) = true := bne_iff_ne.mpr c4
          by_cases c7 : 0 < (x0_1.size : Int)
          · rw [if_pos c7] at H
            have c7b0 : decide (0 < (x0_1.size : Int)) = true := decide_eq_true c7
            have c7b1 : decide (0 < x0_1.size) = true := decide_eq_true (by omega)
            clear c7
            by_cases c9 : (bt x0_1 0) ≥ 97
            · rw [if_pos c9] at H
              have c9b0 : decide (97 ≤ (bt x0_1 0)) = true := decide_eq_true c9
              clear c9
              by_cases c11 : (bt x0_1 0) ≤ 122
              · rw [if_pos c11] at H
                have c11b0 : decide ((bt x0_1 0) ≤ 122) = true := decide_eq_true c11
                clear c11
                obtain ⟨y122, hy122⟩ : ∃ y_ : List Int, y_ = (([((bt x0_1 0) - 32) % 256] : List Int)) := ⟨_, rfl⟩
                replace H : (if x3_1.size + (strOfNums y122).size ≤ 9223372036854775807 then (if 0 ≤ t121 then (if t121 ≤ (x0_1.size : Int) then (joistref06_Fold.l0 k1 (x0_1.extract (t121 : Int).toNat x0_1.size) (x3_1 ++ (strOfNums y122))) else (none)) else (none)) else (none)) = some r := by first | (rw [hy122]; with_reducible exact H) | (have H2_ := (Option.bind_some _ _).symm.trans H; rw [hy122]; with_reducible exact H2_) | (have H2_ := (Option.bind_some _ _).symm.trans H; with_reducible exact H2_) | with_reducible exact H | (rw [hy122]; exact H) | exact H
                have Ny122 := Aside0.mk hy122
                clear hy122
                by_cases c13 : x3_1.size + (strOfNums y122).size ≤ 9223372036854775807
                · rw [if_pos c13] at H
                  have c13b0 := eq_true c13
                  have c13b1 : decide (x3_1.size + (strOfNums y122).size ≤ 9223372036854775807) = true := decide_eq_true c13
                  try have c13b2 : (9223372036854775807 < x3_1.size + (strOfNums y122).size) = False := eq_false (Nat.not_lt.2 c13)
                  by_cases c14 : 0 ≤ t121
                  · rw [if_pos c14] at H
                    have c14b0 := eq_true c14
                    have c14b1 : decide (0 ≤ t121) = true := decide_eq_true c14
                    clear c14
                    by_cases c15 : t121 ≤ (x0_1.size : Int)
                    · rw [if_pos c15] at H
                      have c15b0 := eq_true c15
                      have c15b1 : decide (t121 ≤ (x0_1.size : Int)) = true := decide_eq_true c15
                      clear c15
                      have H' := Aside0.mk H
                      clear H
                      go_wp2_with (first | ((with_reducible refine gate_callee (f := 31) rfl ?_); refine goesL_ (some 11) rfl rfl Tryd.func31 (by kernel_rfl) rfl #[.string x0_1] rfl (by (try simp only [List.map_toArray, List.map_cons, List.map_nil]); first | done | rfl | (simp only [List.length_drop, List.length_take]; rfl)) ?_; (with_reducible refine (joistref06_runeOf.calls k1 x0_1 t120 t121 _ A3.out).mono ?_); rintro e w' ⟨rfl, ⟨nd, rfl⟩⟩; refine ⟨_, rfl, ?_⟩; have p8 : 0 ≤ (0 : Int) := (by omega); have q8 : 0 < x0_1.size := (by have : (0 : Int) < (x0_1.size : Int) := of_decide_eq_true (by first | (with_reducible assumption) | assumption); omega); have hx8 : ∀ h : 0 < x0_1.size, ((x0_1[0]'h).toNat : Int) = bt x0_1 0 := bt_at x0_1 0; clear p8; have qi8 : (0 < (x0_1.size : Int)) = True := eq_true (of_decide_eq_true (by first | (with_reducible assumption) | assumption)); replace q8 := eq_true q8; have p10 : 0 ≤ (0 : Int) := (by omega); have q10 : 0 < x0_1.size := (by have : (0 : Int) < (x0_1.size : Int) := of_decide_eq_true (by first | (with_reducible assumption) | assumption); omega); have hx10 : ∀ h : 0 < x0_1.size, ((x0_1[0]'h).toNat : Int) = bt x0_1 0 := bt_at x0_1 0; clear p10; have qi10 : (0 < (x0_1.size : Int)) = True := eq_true (of_decide_eq_true (by first | (with_reducible assumption) | assumption)); replace q10 := eq_true q10; have p12 : 0 ≤ (0 : Int) := (by omega); have q12 : 0 < x0_1.size := (by have : (0 : Int) < (x0_1.size : Int) := of_decide_eq_true (by first | (with_reducible assumption) | assumption); omega); have hx12 : ∀ h : 0 < x0_1.size, ((x0_1[0]'h).toNat : Int) = bt x0_1 0 := bt_at x0_1 0; clear p12; have qi12 : (0 < (x0_1.size : Int)) = True := eq_true (of_decide_eq_true (by first | (with_reducible assumption) | assumption)); replace q12 := eq_true q12) | ((with_reducible refine gate_dst (N := 32) rfl ?_); refine Kd.R_lit (Kd.int .u8) _ 5 ?hg (N := 32) ?hd (xs := ([((bt x0_1 0) - 32) % 256] : List Int)) (inner := [.int .u8 (((bt x0_1 0) - 32) % 256)]) (ok := fun _ => True) (okp := fun _ => True) ?hr ?hp (fun _ hk => hk) trivial (Below.refl _ _) (Nat.le_refl _) (by simp) ?_; (case hd => rfl); (case hg => rfl); (case hr => first | (go_simp; done) | (go_simp; rfl)); (case hp => exact (Reps.one (show Kd.M (Kd.int .u8) _ _ _ (((bt x0_1 0) - 32) % 256) [.int .u8 (((bt x0_1 0) - 32) % 256)] from rfl) (Reps.none _ _))); intro v123 w16 ho17 hb hg_ hnew_; clear hg_ hnew_; (first | rw [← Ny122.out] at ho17 | (simp only [Int.reduceToNat] at ho17; rw [← Ny122.out] at ho17)); have n0_ := Aside0.mk (Kd.R_lower ho17 (below_size (by repeat (first | (with_reducible first | exact HB.out | apply below_alloc | apply pw_below_drewN | apply below_drew1) | exact HB.out)))); have n1_ := Aside0.mk (below_step (by repeat (first | (with_reducible first | exact HB.out | apply below_alloc | apply pw_below_drewN | apply below_drew1) | exact HB.out)) hb); clear HB; have HO124 := n0_; have HB := n1_; clear n0_ n1_; clear hb ho17; have hcv18 := own_string (P := Tryd.prog) Tryd.underlying25 Tryd.underlying5 Tryd.underlying9 (Kd.own_of_R HO124.out)))
                      go_roundg k1
                      case measure => have := HK1.out; omega
                      case rel => exact ⟨(x0_1.extract (t121 : Int).toNat x0_1.size), (x3_1 ++ (strOfNums y122)), (by first | rfl | (simp; done) | (simp [*]; done)), (by first | rfl | (simp; done) | (simp [*]; done)), H', ⟨by have := HK1.out; omega⟩, ⟨by repeat (first | (with_reducible first | exact HB.out | apply below_alloc | apply pw_below_drewN | apply below_drew1) | exact HB.out)⟩⟩
                    · rw [if_neg c15] at H
                      exact absurd H (by simp)
                  · rw [if_neg c14] at H
                    exact absurd H (by simp)
                · rw [if_neg c13] at H
                  exact absurd H (by simp)
              · rw [if_neg c11] at H
                have c11b0 : decide ((bt x0_1 0) ≤ 122) = false := decide_eq_false c11
                clear c11
                by_cases c19 : 0 ≤ t121
                · rw [if_pos c19] at H
                  have c19b0 := eq_true c19
                  have c19b1 : decide (0 ≤ t121) = true := decide_eq_true c19
                  clear c19
                  by_cases c20 : t121 ≤ (x0_1.size : Int)
                  · rw [if_pos c20] at H
                    have c20b0 := eq_true c20
                    have c20b1 : decide (t121 ≤ (x0_1.size : Int)) = true := decide_eq_true c20
                    clear c20
                    by_cases c21 : x3_1.size + (x0_1.extract 0 (t121 : Int).toNat).size ≤ 9223372036854775807
                    · rw [if_pos c21] at H
                      have c21b0 := eq_true c21
                      have c21b1 : decide (x3_1.size + (x0_1.extract 0 (t121 : Int).toNat).size ≤ 9223372036854775807) = true := decide_eq_true c21
                      try have c21b2 : (9223372036854775807 < x3_1.size + (x0_1.extract 0 (t121 : Int).toNat).size) = False := eq_false (Nat.not_lt.2 c21)
                      have c22b0 := eq_true (of_decide_eq_true (by first | (with_reducible assumption) | assumption) : 0 ≤ t121)
                      have c23b0 := eq_true (of_decide_eq_true (by first | (with_reducible assumption) | assumption) : t121 ≤ (x0_1.size : Int))
                      have H' := Aside0.mk H
                      clear H
                      go_wp2_with (first | ((with_reducible refine gate_callee (f := 31) rfl ?_); refine goesL_ (some 11) rfl rfl Tryd.func31 (by kernel_rfl) rfl #[.string x0_1] rfl (by (try simp only [List.map_toArray, List.map_cons, List.map_nil]); first | done | rfl | (simp only [List.length_drop, List.length_take]; rfl)) ?_; (with_reducible refine (joistref06_runeOf.calls k1 x0_1 t120 t121 _ A3.out).mono ?_); rintro e w' ⟨rfl, ⟨nd, rfl⟩⟩; refine ⟨_, rfl, ?_⟩; have p8 : 0 ≤ (0 : Int) := (by omega); have q8 : 0 < x0_1.size := (by have : (0 : Int) < (x0_1.size : Int) := of_decide_eq_true (by first | (with_reducible assumption) | assumption); omega); have hx8 : ∀ h : 0 < x0_1.size, ((x0_1[0]'h).toNat : Int) = bt x0_1 0 := bt_at x0_1 0; clear p8; have qi8 : (0 < (x0_1.size : Int)) = True := eq_true (of_decide_eq_true (by first | (with_reducible assumption) | assumption)); replace q8 := eq_true q8; have p10 : 0 ≤ (0 : Int) := (by omega); have q10 : 0 < x0_1.size := (by have : (0 : Int) < (x0_1.size : Int) := of_decide_eq_true (by first | (with_reducible assumption) | assumption); omega); have hx10 : ∀ h : 0 < x0_1.size, ((x0_1[0]'h).toNat : Int) = bt x0_1 0 := bt_at x0_1 0; clear p10; have qi10 : (0 < (x0_1.size : Int)) = True := eq_true (of_decide_eq_true (by first | (with_reducible assumption) | assumption)); replace q10 := eq_true q10))
                      go_roundg k1
                      case measure => have := HK1.out; omega
                      case rel => exact ⟨(x0_1.extract (t121 : Int).toNat x0_1.size), (x3_1 ++ (x0_1.extract 0 (t121 : Int).toNat)), (by first | rfl | (simp; done) | (simp [*]; done)), (by first | rfl | (simp; done) | (simp [*]; done)), H', ⟨by have := HK1.out; omega⟩, ⟨by repeat (first | (with_reducible first | exact HB.out | apply below_alloc | apply pw_below_drewN | apply below_drew1) | exact HB.out)⟩⟩
                    · rw [if_neg c21] at H
                      exact absurd H (by simp)
                  · rw [if_neg c20] at H
                    exact absurd H (by simp)
                · rw [if_neg c19] at H
                  exact absurd H (by simp)
            · rw [if_neg c9] at H
              have c9b0 : decide (97 ≤ (bt x0_1 0)) = false := decide_eq_false c9
              clear c9
              by_cases c24 : 0 ≤ t121
              · rw [if_pos c24] at H
                have c24b0 := eq_true c24
                have c24b1 : decide (0 ≤ t121) = true := decide_eq_true c24
                clear c24
                by_cases c25 : t121 ≤ (x0_1.size : Int)
                · rw [if_pos c25] at H
                  have c25b0 := eq_true c25
                  have c25b1 : decide (t121 ≤ (x0_1.size : Int)) = true := decide_eq_true c25
                  clear c25
                  by_cases c26 : x3_1.size + (x0_1.extract 0 (t121 : Int).toNat).size ≤ 9223372036854775807
                  · rw [if_pos c26] at H
                    have c26b0 := eq_true c26
                    have c26b1 : decide (x3_1.size + (x0_1.extract 0 (t121 : Int).toNat).size ≤ 9223372036854775807) = true := decide_eq_true c26
                    try have c26b2 : (9223372036854775807 < x3_1.size + (x0_1.extract 0 (t121 : Int).toNat).size) = False := eq_false (Nat.not_lt.2 c26)
                    have c27b0 := eq_true (of_decide_eq_true (by first | (with_reducible assumption) | assumption) : 0 ≤ t121)
                    have c28b0 := eq_true (of_decide_eq_true (by first | (with_reducible assumption) | assumption) : t121 ≤ (x0_1.size : Int))
                    have H' := Aside0.mk H
                    clear H
                    go_wp2_with (first | ((with_reducible refine gate_callee (f := 31) rfl ?_); refine goesL_ (some 11) rfl rfl Tryd.func31 (by kernel_rfl) rfl #[.string x0_1] rfl (by (try simp only [List.map_toArray, List.map_cons, List.map_nil]); first | done | rfl | (simp only [List.length_drop, List.length_take]; rfl)) ?_; (with_reducible refine (joistref06_runeOf.calls k1 x0_1 t120 t121 _ A3.out).mono ?_); rintro e w' ⟨rfl, ⟨nd, rfl⟩⟩; refine ⟨_, rfl, ?_⟩; have p8 : 0 ≤ (0 : Int) := (by omega); have q8 : 0 < x0_1.size := (by have : (0 : Int) < (x0_1.size : Int) := of_decide_eq_true (by first | (with_reducible assumption) | assumption); omega); have hx8 : ∀ h : 0 < x0_1.size, ((x0_1[0]'h).toNat : Int) = bt x0_1 0 := bt_at x0_1 0; clear p8; have qi8 : (0 < (x0_1.size : Int)) = True := eq_true (of_decide_eq_true (by first | (with_reducible assumption) | assumption)); replace q8 := eq_true q8))
                    go_roundg k1
                    case measure => have := HK1.out; omega
                    case rel => exact ⟨(x0_1.extract (t121 : Int).toNat x0_1.size), (x3_1 ++ (x0_1.extract 0 (t121 : Int).toNat)), (by first | rfl | (simp; done) | (simp [*]; done)), (by first | rfl | (simp; done) | (simp [*]; done)), H', ⟨by have := HK1.out; omega⟩, ⟨by repeat (first | (with_reducible first | exact HB.out | apply below_alloc | apply pw_below_drewN | apply below_drew1) | exact HB.out)⟩⟩
                  · rw [if_neg c26] at H
                    exact absurd H (by simp)
                · rw [if_neg c25] at H
                  exact absurd H (by simp)
              · rw [if_neg c24] at H
                exact absurd H (by simp)
          · rw [if_neg c7] at H
            exact absurd H (by simp)
      · rw [if_neg c2] at H
        have c2b0 : decide (0 < (x0_1.size : Int)) = false := decide_eq_false c2
        have c2b1 : decide (0 < x0_1.size) = false := decide_eq_false (by omega)
        clear c2
        obtain rfl := Option.some.inj H
        go_wp2
        go_ret
        exact ⟨by first | rfl | (simp [errW_none, errW_some] <;> rfl) | (simp [*, errW_none, errW_some] <;> rfl), by repeat (first | (with_reducible first | exact HB.out | apply below_alloc | apply pw_below_drewN | apply below_drew1) | exact HB.out)⟩

end Go.Proofs.YtlhemachmidoaaaDoor.P
