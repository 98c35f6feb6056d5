/- What the functions of package class return, whatever integers they are called with. -/
import Derived.Test.YtlpkbekpdhaplaaP0
import Derived.Laws.ResultCell
import Derived.WalkSpells
import Derived.LoopTactic
import Derived.Outline
namespace Go.Proofs.Ytlpkbekpdhaplaa.P
open Go.RowKit Go.Proofs.YtlpkbekpdhaplaaW.PrintWords Go.Proofs.YtlpkbekpdhaplaaW.PrintLast Go.Proofs.YtlpkbekpdhaplaaW.PrintMore
set_option linter.unusedVariables false
set_option linter.unusedSimpArgs false

/-! ### class.words: function 42 -/
def class_arr : Value := .agg #[.int .i64 2, .int .i64 3, .int .i64 5, .int .i64 7, .int .i64 10, .int .i64 15]
set_option maxRecDepth 100000 in
theorem class_words.calls (w : World) :
    Calls Try.prog 42 #[] w fun e w' => e = .returned (.agg #[.int .i64 2, .int .i64 3, .int .i64 5, .int .i64 7, .int .i64 10, .int .i64 15]) ∧ Below w.heap.size w w' := by
  go_enter Try.func42, Try.ntmps42
  go_wp2
  refine bodyPost_ret (results_cell_row (by rfl) _ _ w.heap.size 55 #[.int .i64 2, .int .i64 3, .int .i64 5, .int .i64 7, .int .i64 10, .int .i64 15] (0, 0) _ rfl (blk_new w _) Try.underlying55 rfl (by kernel_rfl)) rfl ?_
  exact ⟨rfl, (Below.refl _ _).alloc (Nat.le_refl _) _⟩
theorem class_at (i : Nat) (h : i < 6) (w : World) : (Instr.index 55 (.agg #[.int .i64 2, .int .i64 3, .int .i64 5, .int .i64 7, .int .i64 10, .int .i64 15]) (.int .i64 (i : Int))).run Try.prog w = .ok (.int .i64 (rd [2, 3, 5, 7, 10, 15] i)) w := by
  obtain h | h | h | h | h | h : i = 0 ∨ i = 1 ∨ i = 2 ∨ i = 3 ∨ i = 4 ∨ i = 5 := by omega
  all_goals subst h; kernel_rfl
/-! ### class.largest: function 41 -/
def class_largest.f : Option Int := some 120
set_option maxRecDepth 100000 in
theorem class_largest.calls (r : Int) (w : World) (h : class_largest.f = some r) :
    Calls Try.prog 41 #[] w fun e w' => e = .returned (.int .i64 r) ∧ Below w.heap.size w w' := by
  obtain rfl := Option.some.inj h
  have i5 : ∀ w : World, (Instr.index 55 (.agg #[.int .i64 2, .int .i64 3, .int .i64 5, .int .i64 7, .int .i64 10, .int .i64 15]) (.int .i64 5)).run Try.prog w = .ok (.int .i64 15) w := fun w => class_at 5 (by omega) w
  go_enter Try.func41, Try.ntmps41
  go_wp2_with (go_at_call 42; refine (class_words.calls _).mono ?_; rintro e w' ⟨rfl, hb⟩)
  go_ret
  exact ⟨rfl, hb⟩
/-! ### class.Words: function 17 -/
def class_Words.f (a0 : Int) : Option (Int × Int) := if 0 ≤ a0 ∧ a0 < 6 then some (rd [2, 3, 5, 7, 10, 15] a0, 0) else some (0, 1)
set_option maxRecDepth 100000 in
theorem class_Words.calls (a0 : Int) (r1 : Int) (r2 : Int) (w : World) (h : class_Words.f a0 = some (r1, r2)) :
    Calls Try.prog 17 #[.int .i64 a0] w fun e w' => e = .returned (.tuple #[.int .i64 r1, .int .i64 r2]) ∧ Below w.heap.size w w' := by
  unfold class_Words.f at h
  by_cases hc : 0 ≤ a0 ∧ a0 < 6
  · rw [if_pos hc] at h
    simp only [Option.some.injEq, Prod.mk.injEq] at h
    obtain ⟨rfl, rfl⟩ := h
    obtain ⟨h0, h1⟩ := hc
    obtain ⟨i, rfl⟩ : ∃ i : Nat, a0 = i := ⟨a0.toNat, by omega⟩
    have i5 := class_at i (by omega)
    go_enter Try.func17, Try.ntmps17
    go_wp2_with (go_at_call 42; refine (class_words.calls _).mono ?_; rintro e w' ⟨rfl, hb⟩)
    go_ret2
    exact ⟨rfl, hb⟩
  · rw [if_neg hc] at h
    simp only [Option.some.injEq, Prod.mk.injEq] at h
    obtain ⟨rfl, rfl⟩ := h
    by_cases h0 : a0 < 0
    · go_enter Try.func17, Try.ntmps17
      go_wp2
      go_ret2
      exact ⟨rfl, Below.refl _ _⟩
    · have h1 : 6 ≤ a0 := by omega
      clear hc
      go_enter Try.func17, Try.ntmps17
      go_wp2
      go_ret2
      exact ⟨rfl, Below.refl _ _⟩
/-! ### class.Of: function 15 -/
def class_of (n : Int) : Int := if n ≤ 16 then 0 else if n ≤ 24 then 1 else if n ≤ 40 then 2 else if n ≤ 56 then 3 else if n ≤ 80 then 4 else 5
def class_Of.f (a0 : Int) : Option (Int × Bool) := if 1 ≤ a0 ∧ a0 ≤ 120 then some (class_of a0, true) else some (0, false)
def class_past (k : Nat) (n : Int) : Prop := k < 6 ∧ (1 ≤ k → 16 < n) ∧ (2 ≤ k → 24 < n) ∧ (3 ≤ k → 40 < n) ∧ (4 ≤ k → 56 < n) ∧ (5 ≤ k → 80 < n)
theorem class_of_at {n : Int} {k : Nat} (h : class_past k n) (h2 : n ≤ 8 * rd [2, 3, 5, 7, 10, 15] k) : class_of n = k := by
  obtain ⟨h, a, b, c, d, e⟩ := h
  unfold class_of
  obtain h | h | h | h | h | h : k = 0 ∨ k = 1 ∨ k = 2 ∨ k = 3 ∨ k = 4 ∨ k = 5 := by omega
  all_goals subst h; simp [rd] at h2 a b c d e ⊢; omega
theorem class_past_next {n : Int} {k : Nat} (h : class_past k n) (h2 : ¬ n ≤ 8 * rd [2, 3, 5, 7, 10, 15] k) (hn : n ≤ 120) : class_past (k + 1) n := by
  obtain ⟨h, a, b, c, d, e⟩ := h
  unfold class_past
  obtain h | h | h | h | h | h : k = 0 ∨ k = 1 ∨ k = 2 ∨ k = 3 ∨ k = 4 ∨ k = 5 := by omega
  all_goals subst h; simp [rd] at h2 a b c d e ⊢; omega
set_option maxRecDepth 100000 in
theorem class_Of.calls (a0 : Int) (r1 : Int) (r2 : Bool) (w : World) (h : class_Of.f a0 = some (r1, r2)) :
    Calls Try.prog 15 #[.int .i64 a0] w fun e w' => e = .returned (.tuple #[.int .i64 r1, .bool r2]) ∧ Below w.heap.size w w' := by
  unfold class_Of.f at h
  by_cases hc : 1 ≤ a0 ∧ a0 ≤ 120
  · rw [if_pos hc] at h
    simp only [Option.some.injEq, Prod.mk.injEq] at h
    obtain ⟨rfl, rfl⟩ := h
    obtain ⟨h0, h1⟩ := hc
    have hn : ¬ 120 < a0 := by omega
    go_enter Try.func15, Try.ntmps15
    go_wp2_with (first | (go_at_call 42; refine (class_words.calls _).mono ?_; rintro e w2 ⟨rfl, hb2⟩) | (go_at_call 41; refine (class_largest.calls 120 _ rfl).mono ?_; rintro e w1 ⟨rfl, hb1⟩))
    have hb : Below w.heap.size w w2 := hb1.trans (hb2.mono hb1.size)
    clear hb1 hb2
    go_loop [14] (fun i => ∃ k : Nat, i = .int .i64 k ∧ class_past k a0) (fun i => 6 - (intOf i).toNat)
    case atStart => exact ⟨0, rfl, by unfold class_past; omega⟩
    case round =>
      obtain ⟨k, rfl, hp⟩ := hrel
      have hk : k < 6 := hp.1
      have i5 := class_at k hk
      have hrd : 0 ≤ rd [2, 3, 5, 7, 10, 15] k ∧ rd [2, 3, 5, 7, 10, 15] k ≤ 15 := by
        obtain h | h | h | h | h | h : k = 0 ∨ k = 1 ∨ k = 2 ∨ k = 3 ∨ k = 4 ∨ k = 5 := by omega
        all_goals subst h; simp [rd]
      by_cases hle : a0 ≤ 8 * rd [2, 3, 5, 7, 10, 15] k
      · have HE := Aside0.mk (class_of_at hp hle)
        clear hp
        go_wp2
        go_ret2
        exact ⟨by rw [HE.out]; rfl, hb⟩
      · have HN := Aside0.mk (class_past_next hp hle h1)
        clear hp
        have hle' : 8 * rd [2, 3, 5, 7, 10, 15] k < a0 := by omega
        go_wp2
        go_round
        case rel => exact ⟨k + 1, by go_num, HN.out⟩
        case measure => simp [intOf]; omega
  · rw [if_neg hc] at h
    simp only [Option.some.injEq, Prod.mk.injEq] at h
    obtain ⟨rfl, rfl⟩ := h
    by_cases h0 : a0 < 1
    · go_enter Try.func15, Try.ntmps15
      go_wp2
      go_ret2
      exact ⟨rfl, Below.refl _ _⟩
    · have h1 : 120 < a0 := by omega
      clear hc
      go_enter Try.func15, Try.ntmps15
      go_wp2_with (first | (go_at_call 41; refine (class_largest.calls 120 _ rfl).mono ?_; rintro e w1 ⟨rfl, hb1⟩))
      go_ret2
      exact ⟨rfl, hb1⟩
/-! ### class.Cells: function 19 -/
def class_Cells.f (a0 : Int) : Option (Int × Int) := if 0 ≤ a0 ∧ a0 < 6 then some (28 / rd [2, 3, 5, 7, 10, 15] a0, 0) else some (0, 1)
theorem class_words_bd {a0 : Int} (h : 0 ≤ a0 ∧ a0 < 6) : 2 ≤ rd [2, 3, 5, 7, 10, 15] a0 ∧ rd [2, 3, 5, 7, 10, 15] a0 ≤ 15 := by
  obtain h | h | h | h | h | h : a0 = 0 ∨ a0 = 1 ∨ a0 = 2 ∨ a0 = 3 ∨ a0 = 4 ∨ a0 = 5 := by omega
  all_goals subst h; simp [rd]
set_option maxRecDepth 100000 in
theorem class_Cells.calls (a0 : Int) (r1 : Int) (r2 : Int) (w : World) (h : class_Cells.f a0 = some (r1, r2)) :
    Calls Try.prog 19 #[.int .i64 a0] w fun e w' => e = .returned (.tuple #[.int .i64 r1, .int .i64 r2]) ∧ Below w.heap.size w w' := by
  unfold class_Cells.f at h
  by_cases hc : 0 ≤ a0 ∧ a0 < 6
  · rw [if_pos hc] at h
    simp only [Option.some.injEq, Prod.mk.injEq] at h
    obtain ⟨rfl, rfl⟩ := h
    have hw : class_Words.f a0 = some (rd [2, 3, 5, 7, 10, 15] a0, 0) := by unfold class_Words.f; rw [if_pos hc]
    obtain ⟨hb1, hb2⟩ := class_words_bd hc
    have HW := Aside0.mk hw
    have hz : ¬ rd [2, 3, 5, 7, 10, 15] a0 = 0 := by omega
    clear hc hw
    go_enter Try.func19, Try.ntmps19
    go_wp2_with (go_at_call 17; refine (class_Words.calls _ _ _ _ HW.out).mono ?_; rintro e w' ⟨rfl, hb⟩)
    go_ret2
    exact ⟨rfl, hb⟩
  · rw [if_neg hc] at h
    simp only [Option.some.injEq, Prod.mk.injEq] at h
    obtain ⟨rfl, rfl⟩ := h
    have hw : class_Words.f a0 = some (0, 1) := by unfold class_Words.f; rw [if_neg hc]
    have HW := Aside0.mk hw
    clear hc hw
    go_enter Try.func19, Try.ntmps19
    go_wp2_with (go_at_call 17; refine (class_Words.calls _ _ _ _ HW.out).mono ?_; rintro e w' ⟨rfl, hb⟩)
    go_ret2
    exact ⟨rfl, hb⟩
/-! ### class.Cell: function 23 -/
def class_Cell.f (a0 a1 : Int) : Option (Int × Int) := if (0 ≤ a0 ∧ a0 < 6) ∧ 0 ≤ a1 ∧ a1 < 28 / rd [2, 3, 5, 7, 10, 15] a0 then some (4 + a1 * rd [2, 3, 5, 7, 10, 15] a0, 0) else some (0, 1)
set_option maxRecDepth 100000 in
theorem class_Cell.calls (a0 a1 : Int) (r1 : Int) (r2 : Int) (w : World) (h : class_Cell.f a0 a1 = some (r1, r2)) :
    Calls Try.prog 23 #[.int .i64 a0, .int .i64 a1] w fun e w' => e = .returned (.tuple #[.int .i64 r1, .int .i64 r2]) ∧ Below w.heap.size w w' := by
  unfold class_Cell.f at h
  by_cases hc : 0 ≤ a0 ∧ a0 < 6
  · have hw : class_Cells.f a0 = some (28 / rd [2, 3, 5, 7, 10, 15] a0, 0) := by unfold class_Cells.f; rw [if_pos hc]
    have HW := Aside0.mk hw
    obtain ⟨hb1, hb2⟩ := class_words_bd hc
    by_cases h0 : 0 ≤ a1
    · by_cases h1 : a1 < 28 / rd [2, 3, 5, 7, 10, 15] a0
      · rw [if_pos ⟨hc, h0, h1⟩] at h
        simp only [Option.some.injEq, Prod.mk.injEq] at h
        obtain ⟨rfl, rfl⟩ := h
        have hd : 28 / rd [2, 3, 5, 7, 10, 15] a0 ≤ 14 := Int.ediv_le_of_le_mul (by omega) (by omega)
        have hm : 0 ≤ a1 * rd [2, 3, 5, 7, 10, 15] a0 ∧ a1 * rd [2, 3, 5, 7, 10, 15] a0 ≤ 14 * 15 :=
          ⟨Int.mul_nonneg h0 (by omega), Int.mul_le_mul (by omega) hb2 (by omega) (by omega)⟩
        obtain ⟨hm1, hm2⟩ := hm
        obtain ⟨h3, h4⟩ := hc
        obtain ⟨i, rfl⟩ : ∃ i : Nat, a0 = i := ⟨a0.toNat, by omega⟩
        have i5 := class_at i (by omega)
        clear hw hd
        go_enter Try.func23, Try.ntmps23
        go_wp2_with (first | (go_at_call 42; refine (class_words.calls _).mono ?_; rintro e w2 ⟨rfl, hb2⟩) | (go_at_call 19; refine (class_Cells.calls _ _ _ _ HW.out).mono ?_; rintro e w1 ⟨rfl, hb1⟩))
        go_ret2
        exact ⟨rfl, hb1.trans (hb2.mono hb1.size)⟩
      · rw [if_neg (fun z => h1 z.2.2)] at h
        simp only [Option.some.injEq, Prod.mk.injEq] at h
        obtain ⟨rfl, rfl⟩ := h
        have h2 : ¬ a1 < 0 := by omega
        have h3 : 28 / rd [2, 3, 5, 7, 10, 15] a0 ≤ a1 := by omega
        clear hw hc h1 h0
        go_enter Try.func23, Try.ntmps23
        go_wp2_with (first | (go_at_call 19; refine (class_Cells.calls _ _ _ _ HW.out).mono ?_; rintro e w1 ⟨rfl, hb1⟩))
        go_ret2
        exact ⟨rfl, hb1⟩
    · rw [if_neg (fun z => h0 z.2.1)] at h
      simp only [Option.some.injEq, Prod.mk.injEq] at h
      obtain ⟨rfl, rfl⟩ := h
      have h2 : a1 < 0 := by omega
      clear hw hc h0
      go_enter Try.func23, Try.ntmps23
      go_wp2_with (first | (go_at_call 19; refine (class_Cells.calls _ _ _ _ HW.out).mono ?_; rintro e w1 ⟨rfl, hb1⟩))
      go_ret2
      exact ⟨rfl, hb1⟩
  · have hw : class_Cells.f a0 = some (0, 1) := by unfold class_Cells.f; rw [if_neg hc]
    have HW := Aside0.mk hw
    rw [if_neg (fun z => hc z.1)] at h
    simp only [Option.some.injEq, Prod.mk.injEq] at h
    obtain ⟨rfl, rfl⟩ := h
    clear hw hc
    go_enter Try.func23, Try.ntmps23
    go_wp2_with (first | (go_at_call 19; refine (class_Cells.calls _ _ _ _ HW.out).mono ?_; rintro e w1 ⟨rfl, hb1⟩))
    go_ret2
    exact ⟨rfl, hb1⟩
/-! ### class.Which: function 25 -/
def class_Which.f (a0 a1 : Int) : Option (Int × Bool) :=
  if a1 ≤ 9223372036854775807 then
    (if (0 ≤ a0 ∧ a0 < 6) ∧ 4 ≤ a1 ∧ (a1 - 4) % rd [2, 3, 5, 7, 10, 15] a0 = 0 ∧ (a1 - 4) / rd [2, 3, 5, 7, 10, 15] a0 < 28 / rd [2, 3, 5, 7, 10, 15] a0 then some ((a1 - 4) / rd [2, 3, 5, 7, 10, 15] a0, true) else some (0, false))
  else none
set_option maxRecDepth 100000 in
theorem class_Which.calls (a0 a1 : Int) (r1 : Int) (r2 : Bool) (w : World) (h : class_Which.f a0 a1 = some (r1, r2)) :
    Calls Try.prog 25 #[.int .i64 a0, .int .i64 a1] w fun e w' => e = .returned (.tuple #[.int .i64 r1, .bool r2]) ∧ Below w.heap.size w w' := by
  unfold class_Which.f at h
  by_cases hm : a1 ≤ 9223372036854775807
  · rw [if_pos hm] at h
    by_cases hc : 0 ≤ a0 ∧ a0 < 6
    · have hw : class_Words.f a0 = some (rd [2, 3, 5, 7, 10, 15] a0, 0) := by unfold class_Words.f; rw [if_pos hc]
      obtain ⟨hb1, hb2⟩ := class_words_bd hc
      generalize rd [2, 3, 5, 7, 10, 15] a0 = u at hw h hb1 hb2
      have HW := Aside0.mk hw
      clear hw
      by_cases h4 : 4 ≤ a1
      · have hz : ¬ u = 0 := by omega
        have hz2 : ((u : Int) == 0) = false := beq_eq_false_iff_ne.2 hz
        have ht : Int.tdiv 28 u = 28 / u := Int.tdiv_eq_ediv_of_nonneg (by omega)
        have ht2 : Int.tdiv (a1 - 4) u = (a1 - 4) / u := Int.tdiv_eq_ediv_of_nonneg (by omega)
        have ht3 : Int.tmod (a1 - 4) u = (a1 - 4) % u := Int.tmod_eq_emod_of_nonneg (by omega)
        have hs : 0 ≤ (a1 - 4) / u := Int.ediv_nonneg (by omega) (by omega)
        have hs2 : (a1 - 4) / u ≤ a1 - 4 := Int.ediv_le_self _ (by omega)
        have hs3 : 0 ≤ 28 / u := Int.ediv_nonneg (by omega) (by omega)
        have hs4 : 28 / u ≤ 28 := Int.ediv_le_self _ (by omega)
        by_cases hr : (a1 - 4) % u = 0
        · have hr2 : ((a1 - 4) % u != 0) = false := bne_eq_false_iff_eq.2 hr
          by_cases hlt : (a1 - 4) / u < 28 / u
          · rw [if_pos ⟨hc, h4, hr, hlt⟩] at h
            simp only [Option.some.injEq, Prod.mk.injEq] at h
            obtain ⟨rfl, rfl⟩ := h
            clear hc hr
            go_enter Try.func25, Try.ntmps25
            go_wp2_with (go_at_call 17; refine (class_Words.calls _ _ _ _ HW.out).mono ?_; rintro e w' ⟨rfl, hb⟩)
            go_quiet (fail)
            go_wp2
            go_ret2
            exact ⟨rfl, pw_below_drewN hb _⟩
          · rw [if_neg (fun z => hlt z.2.2.2)] at h
            simp only [Option.some.injEq, Prod.mk.injEq] at h
            obtain ⟨rfl, rfl⟩ := h
            have hge : 28 / u ≤ (a1 - 4) / u := by omega
            clear hc hr hlt
            go_enter Try.func25, Try.ntmps25
            go_wp2_with (go_at_call 17; refine (class_Words.calls _ _ _ _ HW.out).mono ?_; rintro e w' ⟨rfl, hb⟩)
            go_quiet (fail)
            go_wp2
            go_ret2
            exact ⟨rfl, pw_below_drewN hb _⟩
        · rw [if_neg (fun z => hr z.2.2.1)] at h
          simp only [Option.some.injEq, Prod.mk.injEq] at h
          obtain ⟨rfl, rfl⟩ := h
          have hr2 : ((a1 - 4) % u != 0) = true := bne_iff_ne.2 hr
          clear hc hr
          go_enter Try.func25, Try.ntmps25
          go_wp2_with (go_at_call 17; refine (class_Words.calls _ _ _ _ HW.out).mono ?_; rintro e w' ⟨rfl, hb⟩)
          go_quiet (fail)
          go_wp2
          go_ret2
          exact ⟨rfl, pw_below_drewN hb _⟩
      · rw [if_neg (fun z => h4 z.2.1)] at h
        simp only [Option.some.injEq, Prod.mk.injEq] at h
        obtain ⟨rfl, rfl⟩ := h
        have h5 : a1 < 4 := by omega
        clear hc h4
        go_enter Try.func25, Try.ntmps25
        go_wp2_with (go_at_call 17; refine (class_Words.calls _ _ _ _ HW.out).mono ?_; rintro e w' ⟨rfl, hb⟩)
        go_ret2
        exact ⟨rfl, hb⟩
    · have hw : class_Words.f a0 = some (0, 1) := by unfold class_Words.f; rw [if_neg hc]
      have HW := Aside0.mk hw
      rw [if_neg (fun z => hc z.1)] at h
      simp only [Option.some.injEq, Prod.mk.injEq] at h
      obtain ⟨rfl, rfl⟩ := h
      clear hw hc
      go_enter Try.func25, Try.ntmps25
      go_wp2_with (go_at_call 17; refine (class_Words.calls _ _ _ _ HW.out).mono ?_; rintro e w' ⟨rfl, hb⟩)
      go_ret2
      exact ⟨rfl, hb⟩
  · rw [if_neg hm] at h
    exact absurd h (by simp)
end Go.Proofs.Ytlpkbekpdhaplaa.P
