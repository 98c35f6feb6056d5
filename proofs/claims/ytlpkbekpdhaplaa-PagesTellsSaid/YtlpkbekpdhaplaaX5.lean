/- The document's cell, span and kinds: they are the program's. -/
import Derived.Test.YtlpkbekpdhaplaaX4
import Derived.Test.YtlpkbekpdhaplaaP13
namespace Go.Proofs.Ytlpkbekpdhaplaa.Pure
open Go.RowKit Go.Proofs.Ytlpkbekpdhaplaa.P Go.Proofs.Ytlpkbekpdhaplaa.Open Go.Proofs.YtlpkbekpdhaplaaW.PrintWords Go.Proofs.YtlpkbekpdhaplaaW.PrintLast
set_option linter.unusedSimpArgs false
set_option linter.unusedVariables false

theorem rd44_at (l : List S44) (j : Nat) (h : j < l.length) : rd_T44 l (j : Int) = l[j] := by
  unfold rd_T44; rw [Int.toNat_natCast, List.getD_eq_getElem?_getD, List.getElem?_eq_getElem h]; rfl
theorem of12_step (k i : Nat) (x : Int) (hi : i < 6) : joistref12_Of.l0 (k + 1) x [2, 3, 5, 7, 10, 15] i = if x ≥ 1 ∧ x ≤ 8 * rd [2, 3, 5, 7, 10, 15] i then some ((i : Int), true) else joistref12_Of.l0 k x [2, 3, 5, 7, 10, 15] ((i + 1 : Nat) : Int) := by
  have hb : 2 ≤ rd [2, 3, 5, 7, 10, 15] i ∧ rd [2, 3, 5, 7, 10, 15] i ≤ 15 := wordsOf_in (c := (i : Int)) (by omega) (by omega)
  have hw : wrap64 ((i : Int) + 1) = ((i + 1 : Nat) : Int) := by rw [wrap_in (by omega) (by omega)]; omega
  conv => lhs; unfold joistref12_Of.l0
  rw [if_pos (show (i : Int) < (([2, 3, 5, 7, 10, 15] : List Int).length : Int) by simp only [List.length_cons, List.length_nil]; omega), wrap_in (n := 8 * rd [2, 3, 5, 7, 10, 15] i) (by omega) (by omega), if_pos (show (0 : Int) ≤ i by omega), hw]
  by_cases h1 : x ≥ 1
  · rw [if_pos h1]
    by_cases h2 : x ≤ 8 * rd [2, 3, 5, 7, 10, 15] i
    · rw [if_pos h2, if_pos ⟨h1, h2⟩]
    · rw [if_neg h2, if_neg (fun z => h2 z.2)]
  · rw [if_neg h1, if_neg (fun z => h1 z.1)]
theorem of12_is (x : Int) {k : Nat} (hk : 7 ≤ k) : joistref12_Of.f k x = some (if 1 ≤ x ∧ x ≤ 120 then (class_of x, true) else (0, false)) := by
  obtain ⟨k, rfl⟩ : ∃ m, k = m + 7 := ⟨k - 7, by omega⟩
  unfold joistref12_Of.f joistref12_sizes.f
  simp only [Option.bind_some]
  have e0 := of12_step (k + 6) 0 x (by omega)
  have e1 := of12_step (k + 5) 1 x (by omega)
  have e2 := of12_step (k + 4) 2 x (by omega)
  have e3 := of12_step (k + 3) 3 x (by omega)
  have e4 := of12_step (k + 2) 4 x (by omega)
  have e5 := of12_step (k + 1) 5 x (by omega)
  have e6 : joistref12_Of.l0 (k + 1) x [2, 3, 5, 7, 10, 15] ((5 + 1 : Nat) : Int) = some (0, false) := by
    unfold joistref12_Of.l0; exact if_neg (by decide)
  rw [show rd [2, 3, 5, 7, 10, 15] ((0 : Nat) : Int) = 2 from rfl] at e0
  rw [show rd [2, 3, 5, 7, 10, 15] ((1 : Nat) : Int) = 3 from rfl] at e1
  rw [show rd [2, 3, 5, 7, 10, 15] ((2 : Nat) : Int) = 5 from rfl] at e2
  rw [show rd [2, 3, 5, 7, 10, 15] ((3 : Nat) : Int) = 7 from rfl] at e3
  rw [show rd [2, 3, 5, 7, 10, 15] ((4 : Nat) : Int) = 10 from rfl] at e4
  rw [show rd [2, 3, 5, 7, 10, 15] ((5 : Nat) : Int) = 15 from rfl] at e5
  rw [show (0 : Int) = ((0 : Nat) : Int) from rfl, show k + 7 = k + 6 + 1 by omega, e0]
  unfold class_of
  by_cases c0 : x ≥ 1 ∧ x ≤ 8 * 2
  · rw [if_pos c0, if_pos (by omega), if_pos (by omega)]; rfl
  · rw [if_neg c0, show k + 6 = k + 5 + 1 by omega, e1]
    by_cases c1 : x ≥ 1 ∧ x ≤ 8 * 3
    · rw [if_pos c1, if_pos (by omega), if_neg (by omega), if_pos (by omega)]; rfl
    · rw [if_neg c1, show k + 5 = k + 4 + 1 by omega, e2]
      by_cases c2 : x ≥ 1 ∧ x ≤ 8 * 5
      · rw [if_pos c2, if_pos (by omega), if_neg (by omega), if_neg (by omega), if_pos (by omega)]; rfl
      · rw [if_neg c2, show k + 4 = k + 3 + 1 by omega, e3]
        by_cases c3 : x ≥ 1 ∧ x ≤ 8 * 7
        · rw [if_pos c3, if_pos (by omega), if_neg (by omega), if_neg (by omega), if_neg (by omega), if_pos (by omega)]; rfl
        · rw [if_neg c3, show k + 3 = k + 2 + 1 by omega, e4]
          by_cases c4 : x ≥ 1 ∧ x ≤ 8 * 10
          · rw [if_pos c4, if_pos (by omega), if_neg (by omega), if_neg (by omega), if_neg (by omega), if_neg (by omega), if_pos (by omega)]; rfl
          · rw [if_neg c4, show k + 2 = k + 1 + 1 by omega, e5]
            by_cases c5 : x ≥ 1 ∧ x ≤ 8 * 15
            · rw [if_pos c5, if_pos (by omega), if_neg (by omega), if_neg (by omega), if_neg (by omega), if_neg (by omega), if_neg (by omega)]; rfl
            · rw [if_neg c5, e6, if_neg (by omega)]; rfl
theorem words12_is {c : Int} (h0 : 0 ≤ c) (h1 : c < 6) : joistref12_Words.f c = some (wordsOf c, 0) := by
  unfold joistref12_Words.f joistref12_sizes.f
  simp only [Option.bind_some, List.length_cons, List.length_nil]
  rw [if_neg (by omega), if_neg (by omega), if_pos h0, if_pos (by omega)]
  rfl
theorem cells12_is {c : Int} (h0 : 0 ≤ c) (h1 : c < 6) : joistref12_Cells.f c = some (28 / wordsOf c, 0) := by
  have hw := wordsOf_in h0 h1
  unfold joistref12_Cells.f
  rw [words12_is h0 h1]
  simp only [Option.bind_some, if_true]
  have hd : 0 ≤ 28 / wordsOf c := Int.ediv_nonneg (by omega) (by omega)
  have hd2 : 28 / wordsOf c ≤ 28 := Int.ediv_le_self _ (by omega)
  rw [if_neg (by omega), Int.tdiv_eq_ediv_of_nonneg (by omega), wrap_in (by omega) (by omega)]
theorem cell12_is {c j : Int} (h0 : 0 ≤ c) (h1 : c < 6) (h2 : 0 ≤ j) (h3 : j < 28 / wordsOf c) : joistref12_Cell.f c j = some (4 + j * wordsOf c, 0) := by
  have hw := wordsOf_in h0 h1
  have hm : 0 ≤ j * wordsOf c := Int.mul_nonneg h2 (by omega)
  have hm2 : j * wordsOf c ≤ 28 := by
    have := (Int.le_ediv_iff_mul_le (show 0 < wordsOf c by omega)).1 (show j ≤ 28 / wordsOf c by omega)
    exact this
  unfold joistref12_Cell.f
  rw [cells12_is h0 h1, words12_is h0 h1]
  simp only [Option.bind_some, if_true]
  rw [if_neg (by omega), if_neg (by omega), Int.mul_comm (wordsOf c) j, wrap_in (n := j * wordsOf c) (by omega) (by omega), wrap_in (by omega) (by omega)]
theorem which_l0 {c r M : Int} (h0 : 0 ≤ c) (h1 : c < 6) (hM : M = 28 / wordsOf c) : ∀ (d j k : Nat), (j : Int) + d = M → d < k → (∀ t : Nat, t < j → 4 + (t : Int) * wordsOf c ≠ r) →
    joistref12_Which.l0 k c r M j = some (if 4 ≤ r ∧ (r - 4) % wordsOf c = 0 ∧ (r - 4) / wordsOf c < M then ((r - 4) / wordsOf c, true) else (0, false)) := by
  have hw := wordsOf_in h0 h1
  intro d
  induction d with
  | zero =>
    intro j k hj hk hn
    obtain ⟨k, rfl⟩ : ∃ m, k = m + 1 := ⟨k - 1, by omega⟩
    unfold joistref12_Which.l0
    rw [if_neg (by omega), if_neg]
    rintro ⟨g1, g2, g3⟩
    have hq : 0 ≤ (r - 4) / wordsOf c := Int.ediv_nonneg (by omega) (by omega)
    have hm := Int.mul_ediv_add_emod (r - 4) (wordsOf c)
    rw [g2, Int.add_zero, Int.mul_comm] at hm
    refine hn ((r - 4) / wordsOf c).toNat (by omega) ?_
    rw [Int.toNat_of_nonneg hq, hm]; omega
  | succ d ih =>
    intro j k hj hk hn
    obtain ⟨k, rfl⟩ : ∃ m, k = m + 1 := ⟨k - 1, by omega⟩
    unfold joistref12_Which.l0
    rw [if_pos (by omega), cell12_is h0 h1 (by omega) (by omega)]
    simp only [Option.bind_some]
    by_cases e : 4 + (j : Int) * wordsOf c = r
    · rw [if_pos e, show r - 4 = (j : Int) * wordsOf c by omega, Int.mul_emod_left, Int.mul_ediv_cancel _ (by omega), if_pos ⟨by have := Int.mul_nonneg (show (0 : Int) ≤ j by omega) (show 0 ≤ wordsOf c by omega); omega, rfl, by omega⟩]
    · have hM2 : 28 / wordsOf c ≤ 28 := Int.ediv_le_self _ (by omega)
      rw [if_neg e, wrap_in (by omega) (by omega), show (j : Int) + 1 = ((j + 1 : Nat) : Int) by omega]
      refine ih (j + 1) k (by omega) (by omega) (fun t ht => ?_)
      by_cases e2 : t = j
      · rw [e2]; exact e
      · exact hn t (by omega)
def cellOf (a len : Int) : Int × Int × Int × Bool :=
  if 1 ≤ len ∧ len ≤ 120 ∧ 0 ≤ a then
    (if 4 ≤ a % 32 ∧ (a % 32 - 4) % wordsOf (class_of len) = 0 ∧ (a % 32 - 4) / wordsOf (class_of len) < 28 / wordsOf (class_of len) then (a / 32, class_of len, (a % 32 - 4) / wordsOf (class_of len), true) else (a / 32, class_of len, 0, false))
  else (0, 0, 0, false)
theorem cell13_is (a len : Int) (ha : a ≤ 9223372036854775807) {k : Nat} (hk : 40 ≤ k) : joistref13_cell.f k a len = some (cellOf a len) := by
  unfold joistref13_cell.f cellOf
  rw [of12_is len (by omega)]
  simp only [Option.bind_some]
  by_cases c1 : 1 ≤ len ∧ len ≤ 120
  · rw [if_pos c1]
    simp only [if_true]
    by_cases c0 : a < 0
    · rw [if_pos c0, if_neg (by omega)]
    · have hc := class_of_in len
      have hw := wordsOf_in hc.1 hc.2
      have hM : 0 ≤ 28 / wordsOf (class_of len) := Int.ediv_nonneg (by omega) (by omega)
      have hM2 : 28 / wordsOf (class_of len) ≤ 28 := Int.ediv_le_self _ (by omega)
      rw [if_neg c0, if_pos ⟨c1.1, c1.2, by omega⟩]
      unfold joistref12_Which.f
      rw [cells12_is hc.1 hc.2]
      simp only [Option.bind_some]
      have := which_l0 hc.1 hc.2 (r := a.tmod 32) rfl (28 / wordsOf (class_of len)).toNat 0 k (by omega) (by omega) (fun t ht => by omega)
      rw [show ((0 : Nat) : Int) = 0 from rfl] at this
      rw [this, Int.tmod_eq_emod_of_nonneg (by omega), Int.tdiv_eq_ediv_of_nonneg (by omega), wrap_in (by omega) (by omega)]
      simp only [Option.bind_some]
      split <;> rfl
  · rw [if_neg c1, if_neg (show ¬ (1 ≤ len ∧ len ≤ 120 ∧ 0 ≤ a) by omega)]
    simp only [Bool.false_eq_true, if_false]
theorem cell_small {n a len : Int} {p k : Nat} (e : spotv n a len = ((p : Int), 1, true, class_of len, (k : Int), true)) : cellOf a len = ((p : Int), class_of len, (k : Int), true) := by
  unfold spotv at e
  unfold cellOf
  split at e
  · simp at e
  · split at e
    · rename_i c0 c1
      rw [if_pos ⟨c1.1, c1.2, by omega⟩]
      split at e
      · rename_i c2
        rw [if_pos c2]
        simp only [Prod.mk.injEq] at e ⊢
        exact ⟨e.1, trivial, e.2.2.2.2.1, trivial⟩
      · simp at e
    · split at e <;> simp at e
/-- The document's span. -/
theorem span_ok {n a len : Int} (h0 : 0 ≤ n) (h1 : n ≤ 64) (ha : a ≤ 9223372036854775807) {k : Nat} (hk : 40 ≤ k) (h : (spotv n a len).2.2.2.2.2 = true) :
    joistref13_span.f k n a len = some ((spotv n a len).1, (spotv n a len).2.1, true) := by
  unfold joistref13_span.f
  rw [if_pos ⟨h0, h1, ha⟩, cell13_is a len ha hk, Option.map_some]
  unfold spanOf
  rcases spotv_cases h with ⟨s1, s2, p, j, e1, e2, e3, e⟩ | ⟨s1, s2, p, e1, e2, e3, e⟩
  · rw [cell_small e, e]
    simp only [if_true]
    rw [decide_eq_true e3]
  · have : cellOf a len = (0, 0, 0, false) := by unfold cellOf; rw [if_neg (by omega)]
    rw [this, e, if_neg (by decide), if_pos ⟨s1, s2, by omega, by omega⟩, decide_eq_true ⟨by omega, by omega⟩]
    congr 2
    omega
theorem span_no {n a len : Int} (h0 : 0 ≤ n) (h1 : n ≤ 64) (ha : a ≤ 9223372036854775807) {k : Nat} (hk : 40 ≤ k) (h : (spotv n a len).2.2.2.2.2 = false) :
    ∃ x y, joistref13_span.f k n a len = some (x, y, false) := by
  unfold joistref13_span.f
  rw [if_pos ⟨h0, h1, ha⟩, cell13_is a len ha hk, Option.map_some]
  unfold spotv at h
  unfold spanOf cellOf
  by_cases c0 : a < 0
  · rw [if_neg (show ¬ (1 ≤ len ∧ len ≤ 120 ∧ 0 ≤ a) by omega), if_neg (by decide), if_neg (by omega)]
    exact ⟨_, _, rfl⟩
  · rw [if_neg c0] at h
    by_cases c1 : 1 ≤ len ∧ len ≤ 120
    · rw [if_pos c1] at h
      rw [if_pos (show 1 ≤ len ∧ len ≤ 120 ∧ 0 ≤ a by omega)]
      split at h
      · rename_i c2
        rw [if_pos c2, if_pos rfl]
        exact ⟨a / 32, 1, by simp only at h ⊢; rw [h]⟩
      · rename_i c2
        rw [if_neg c2]
        simp only [Bool.false_eq_true, if_false]
        rw [if_neg (by omega)]
        exact ⟨_, _, rfl⟩
    · rw [if_neg c1] at h
      rw [if_neg (show ¬ (1 ≤ len ∧ len ≤ 120 ∧ 0 ≤ a) by omega), if_neg (by decide)]
      by_cases c3 : 120 < len ∧ len ≤ 2048 ∧ 0 ≤ a ∧ a % 32 = 0
      · rw [if_pos c3]
        rw [if_pos ⟨c3.1, c3.2.1⟩] at h
        simp only [decide_eq_false_iff_not] at h
        exact ⟨_, _, by rw [decide_eq_false (by omega)]⟩
      · rw [if_neg c3]
        exact ⟨_, _, rfl⟩

/-! ### Kinds -/
theorem kinds_l2 {n : Nat} {l : List S44} (hl : l.length ≤ 200) {ks : List Int} (hks : ks.length ≤ 64) {i : Nat} (hi : i < l.length) {p : Nat} (hp : p < ks.length) (c : Int) (V : Option (List Int × Bool)) (B : Nat)
    (hV : ∀ k, B ≤ k → joistref13_Kinds.l1 k n l (ks.set p c) ((i + 1 : Nat) : Int) = V) : ∀ (d j k : Nat), j + d = i → B + d + 1 ≤ k → (∀ t : Nat, j ≤ t → t < i → (rd_T44 l t).f0 ≠ (rd_T44 l i).f0) →
    joistref13_Kinds.l2 k n l ks i p c j = V := by
  have hw : ∀ j : Nat, j < 1000 → wrap64 ((j : Int) + 1) = ((j + 1 : Nat) : Int) := fun j hj => by rw [wrap_in (by omega) (by omega)]; omega
  intro d
  induction d with
  | zero =>
    intro j k hj hk hno
    obtain ⟨k, rfl⟩ : ∃ m, k = m + 1 := ⟨k - 1, by omega⟩
    unfold joistref13_Kinds.l2
    rw [if_neg (by omega), if_pos (by omega), if_pos (by omega), hw i (by omega), Int.toNat_natCast, hV k (by omega)]
  | succ d ih =>
    intro j k hj hk hno
    obtain ⟨k, rfl⟩ : ∃ m, k = m + 1 := ⟨k - 1, by omega⟩
    unfold joistref13_Kinds.l2
    rw [if_pos (by omega), if_pos (by omega), if_pos (by omega), if_pos (by omega), if_pos (by omega), hw j (by omega), if_neg (hno j (Nat.le_refl _) (by omega))]
    exact ih (j + 1) k (by omega) (by omega) (fun t h1 h2 => hno t (by omega) h2)
theorem kinds_l2y {n : Nat} {l : List S44} (hl : l.length ≤ 200) {ks : List Int} {i : Nat} (hi : i < l.length) {p : Nat} (c : Int) : ∀ (d j k : Nat), j + d = i → d < k → (∃ t : Nat, j ≤ t ∧ t < i ∧ (rd_T44 l t).f0 = (rd_T44 l i).f0) →
    joistref13_Kinds.l2 k n l ks i p c j = some ([], false) := by
  intro d
  induction d with
  | zero => intro j k hj hk ⟨t, z⟩; omega
  | succ d ih2 =>
    intro j k hj hk ⟨t, z1, z2, z3⟩
    obtain ⟨k, rfl⟩ : ∃ m, k = m + 1 := ⟨k - 1, by omega⟩
    unfold joistref13_Kinds.l2
    rw [if_pos (by omega), if_pos (by omega), if_pos (by omega), if_pos (by omega), if_pos (by omega)]
    by_cases e5 : (rd_T44 l j).f0 = (rd_T44 l i).f0
    · rw [if_pos e5]
    · rw [if_neg e5, wrap_in (by omega) (by omega), show (j : Int) + 1 = ((j + 1 : Nat) : Int) by omega]
      refine ih2 (j + 1) k (by omega) (by omega) ⟨t, ?_, z2, z3⟩
      by_cases e6 : t = j
      · rw [e6] at z3; exact absurd z3 e5
      · omega
theorem fillK_past (ks : List Int) (p j : Nat) : (fillK ks p j).getD (p + j) 0 = ks.getD (p + j) 0 := by rw [fillK_get, if_neg (by omega)]
theorem kinds_l3 {n : Nat} {l : List S44} (hl : l.length ≤ 200) {ks : List Int} (hks : ks.length ≤ 64) {i : Nat} (hi : i < l.length) {p m : Nat} (hm : 1 ≤ m) (hp : p + m ≤ ks.length) (hf : freeK ks p m = true) (V : Option (List Int × Bool)) (B : Nat)
    (hV : ∀ k, B ≤ k → joistref13_Kinds.l1 k n l ((fillK ks p m).set p 6) ((i + 1 : Nat) : Int) = V) : ∀ (d j k : Nat), j + d = m → B + d + 1 ≤ k →
    joistref13_Kinds.l3 k n l (fillK ks p j) i ((p + j : Nat) : Int) p m = V := by
  have hw : ∀ j : Nat, j < 1000 → wrap64 ((j : Int) + 1) = ((j + 1 : Nat) : Int) := fun j hj => by rw [wrap_in (by omega) (by omega)]; omega
  have hpm : wrap64 ((p : Int) + m) = ((p + m : Nat) : Int) := by rw [wrap_in (by omega) (by omega)]; omega
  intro d
  induction d with
  | zero =>
    intro j k hj hk
    obtain rfl : j = m := (by omega)
    obtain ⟨k, rfl⟩ : ∃ m, k = m + 1 := ⟨k - 1, by omega⟩
    unfold joistref13_Kinds.l3
    rw [hpm, if_neg (by omega), if_pos (by omega), fillK_length, if_pos (by omega), hw i (by omega), Int.toNat_natCast, hV k (by omega)]
  | succ d ih =>
    intro j k hj hk
    obtain ⟨k, rfl⟩ : ∃ m, k = m + 1 := ⟨k - 1, by omega⟩
    unfold joistref13_Kinds.l3
    rw [hpm, if_pos (by omega), if_pos (by omega), fillK_length, if_pos (by omega), hw (p + j) (by omega), rd_nat, fillK_past, Int.toNat_natCast, if_pos (freeK_lt hf (by omega))]
    exact ih (j + 1) k (by omega) (by omega)
theorem kinds_l3n {n : Nat} {l : List S44} {ks : List Int} (hks : ks.length ≤ 64) {i : Nat} {p m : Nat} (hp : p + m ≤ ks.length) (hf : freeK ks p m = false) : ∀ (d j k : Nat), j + d = m → d < k → freeK ks p j = true →
    joistref13_Kinds.l3 k n l (fillK ks p j) i ((p + j : Nat) : Int) p m = some ([], false) := by
  have hw : ∀ j : Nat, j < 1000 → wrap64 ((j : Int) + 1) = ((j + 1 : Nat) : Int) := fun j hj => by rw [wrap_in (by omega) (by omega)]; omega
  have hpm : wrap64 ((p : Int) + m) = ((p + m : Nat) : Int) := by rw [wrap_in (by omega) (by omega)]; omega
  intro d
  induction d with
  | zero =>
    intro j k hj hk hf2
    obtain rfl : j = m := (by omega)
    rw [hf] at hf2; cases hf2
  | succ d ih =>
    intro j k hj hk hf2
    obtain ⟨k, rfl⟩ : ∃ m, k = m + 1 := ⟨k - 1, by omega⟩
    unfold joistref13_Kinds.l3
    rw [hpm, if_pos (by omega), if_pos (by omega), fillK_length, if_pos (by omega), hw (p + j) (by omega), rd_nat, fillK_past, Int.toNat_natCast]
    by_cases e5 : ks.getD (p + j) 0 = -1
    · rw [if_pos e5]
      exact ih (j + 1) k (by omega) (by omega) (by simp only [freeK, hf2, e5]; rfl)
    · rw [if_neg e5]
theorem set_same (ks : List Int) (p : Nat) (hp : p < ks.length) : ks.set p (ks.getD p 0) = ks := by
  apply List.ext_getElem (List.length_set)
  intro i h1 h2
  rw [List.getElem_set]
  split
  · rename_i e; subst e; rw [List.getD_eq_getElem?_getD, List.getElem?_eq_getElem h2]; rfl
  · rfl
set_option maxHeartbeats 2000000 in
theorem kinds_l1 {n : Nat} (hn : n ≤ 64) {l : List S44} (hok : okL l = true) (hl : l.length ≤ 200) : ∀ (d i k : Nat) (st : List Int × List Nat), i + d = l.length → 300 * d + 300 ≤ k → Inv n (l.take i) st.1 st.2 →
    joistref13_Kinds.l1 k n l st.1 i = some (match layAll n (l.drop i) st with | some st' => (st'.1, true) | none => ([], false)) := by
  intro d
  induction d with
  | zero =>
    intro i k st hi hk hI
    obtain ⟨k, rfl⟩ : ∃ m, k = m + 1 := ⟨k - 1, by omega⟩
    unfold joistref13_Kinds.l1
    rw [if_neg (by omega), List.drop_of_length_le (by omega)]
    rfl
  | succ d ih =>
    intro i k st hi hk hI
    obtain ⟨k, rfl⟩ : ∃ m, k = m + 1 := ⟨k - 1, by omega⟩
    have hil : i < l.length := by omega
    have hlen := hI.len
    have hro := rd44_at l i hil
    have hao : l[i].f0 ≤ 9223372036854775807 := by
      unfold okL at hok
      rw [Bool.and_eq_true, List.all_eq_true] at hok
      have := hok.2 l[i] (List.getElem_mem hil)
      simp only [Bool.and_eq_true, decide_eq_true_eq] at this
      exact this.2
    rw [List.drop_eq_getElem_cons hil]
    simp only [layAll]
    unfold joistref13_Kinds.l1
    rw [if_pos (by omega), if_pos (by omega), hro]
    cases hv : (spotv n l[i].f0 l[i].f1).2.2.2.2.2 with
    | false =>
      obtain ⟨x, y, e⟩ := span_no (by omega) (by omega) hao (k := k) (by omega) hv
      rw [e]
      simp only [Option.bind_some, Bool.false_eq_true, if_false]
    | true =>
      rw [span_ok (by omega) (by omega) hao (k := k) (by omega) hv, cell13_is _ _ hao (by omega)]
      simp only [Option.bind_some, if_true]
      have htake : l.take (i + 1) = l.take i ++ [l[i]] := by rw [List.take_succ_eq_append_getElem hil]
      have hnext : ∀ (st' : List Int × List Nat), layOf (spotv n l[i].f0 l[i].f1) st.1 st.2 = some st' → ∀ k, 300 * d + 300 ≤ k → joistref13_Kinds.l1 k n l st'.1 ((i + 1 : Nat) : Int) = some (match layAll n (l.drop (i + 1)) st' with | some st' => (st'.1, true) | none => ([], false)) := fun st' hl' k hk => ih (i + 1) k st' (by omega) hk (by rw [htake]; exact hI.snoc hn hv hl')
      rcases spotv_cases hv with ⟨s1, s2, p, j, e1, e2, e3, e⟩ | ⟨s1, s2, p, e1, e2, e3, e⟩
      · have hc := class_of_in l[i].f1
        have hw := wordsOf_in hc.1 hc.2
        rw [cell_small e]
        simp only [if_true]
        rw [if_pos (by omega), if_pos (by omega), rd_nat]
        have hdup : (∃ t : Nat, 0 ≤ t ∧ t < i ∧ (rd_T44 l t).f0 = (rd_T44 l i).f0) → ∃ x ∈ l.take i, x.f0 = l[i].f0 := by
          rintro ⟨t, _, t1, t2⟩
          rw [hro, rd44_at l t (by omega)] at t2
          exact ⟨l[t], List.mem_take_iff_getElem.2 ⟨t, by omega, rfl⟩, t2⟩
        have hdup' : (∃ x ∈ l.take i, x.f0 = l[i].f0) → (∃ t : Nat, 0 ≤ t ∧ t < i ∧ (rd_T44 l t).f0 = (rd_T44 l i).f0) := by
          rintro ⟨x, x1, x2⟩
          obtain ⟨t, t1, rfl⟩ := List.mem_take_iff_getElem.1 x1
          exact ⟨t, Nat.zero_le _, by omega, by rw [hro, rd44_at l t (by omega)]; exact x2⟩
        have hat := hI.at_ p (by omega)
        -- an object at the same word lies on the same page
        have hsame : ∀ x ∈ l.take i, x.f0 = l[i].f0 → hits n p x = true := by
          intro x hx ex
          have hm : 0 ≤ (j : Int) * wordsOf (class_of l[i].f1) := Int.mul_nonneg (by omega) (by omega)
          have hm2 := (Int.le_ediv_iff_mul_le (show 0 < wordsOf (class_of l[i].f1) by omega)).1 (show (j : Int) + 1 ≤ 28 / wordsOf (class_of l[i].f1) by omega)
          rw [Int.add_mul] at hm2
          rcases spotv_cases (hI.ok x hx) with ⟨_, _, p', j', g1, g2, _, g⟩ | ⟨_, _, p', g1, _, _, g⟩
          · have hc' := class_of_in x.f1
            have hw' := wordsOf_in hc'.1 hc'.2
            have hm' : 0 ≤ (j' : Int) * wordsOf (class_of x.f1) := Int.mul_nonneg (by omega) (by omega)
            have hm2' := (Int.le_ediv_iff_mul_le (show 0 < wordsOf (class_of x.f1) by omega)).1 (show (j' : Int) + 1 ≤ 28 / wordsOf (class_of x.f1) by omega)
            rw [Int.add_mul] at hm2'
            rw [hits_small g]
            exact decide_eq_true (by omega)
          · rw [hits_long g]
            exact decide_eq_true (by omega)
        have hl0 : layOf (spotv n l[i].f0 l[i].f1) st.1 st.2 = if st.1.getD p 0 = class_of l[i].f1 ∧ st.2.getD p 0 &&& 2 ^ j = 0 then some (st.1, st.2.set p (st.2.getD p 0 ||| 2 ^ j)) else if st.1.getD p 0 = -1 then some (st.1.set p (class_of l[i].f1), st.2.set p (2 ^ j)) else none := by
          rw [e]; unfold layOf; simp only [if_true, Int.toNat_natCast, rd_nat]
        have hj3 : ∀ V, (∀ k, 300 * d + 300 ≤ k → joistref13_Kinds.l1 k n l (st.1.set p (class_of l[i].f1)) ((i + 1 : Nat) : Int) = V) → ¬ (∃ t : Nat, 0 ≤ t ∧ t < i ∧ (rd_T44 l t).f0 = (rd_T44 l i).f0) → joistref13_Kinds.j3 k n l st.1 i p (class_of l[i].f1) false = V := by
          intro V hV hno
          obtain ⟨k, rfl⟩ : ∃ m, k = m + 1 := ⟨k - 1, by omega⟩
          simp only [joistref13_Kinds.j3, Bool.false_eq_true, if_false]
          exact kinds_l2 (n := n) hl (ks := st.1) (by omega) hil (p := p) (by omega) (class_of l[i].f1) V (300 * d + 300) hV i 0 k (by omega) (by omega) (fun t h1 h2 h3 => hno ⟨t, h1, h2, h3⟩)
        rcases hat with ⟨g0, g⟩ | ⟨g0, g1, g2, g3, g4⟩ | ⟨g0, g1, _, _⟩
        · -- a free page
          have hl1 : layOf (spotv n l[i].f0 l[i].f1) st.1 st.2 = some (st.1.set p (class_of l[i].f1), st.2.set p (2 ^ j)) := by
            rw [hl0, if_neg (by omega), if_pos g0]
          rw [if_pos g0, hj3 _ (hnext _ hl1), hl1]
          · rfl
          · intro z
            obtain ⟨x, x1, x2⟩ := hdup z
            have := hsame x x1 x2
            rw [g x x1] at this; cases this
        · rw [if_neg (by omega)]
          by_cases ec : st.1.getD p 0 = class_of l[i].f1
          · rw [ec, bne_self_eq_false]
            have hset : st.1.set p (class_of l[i].f1) = st.1 := by rw [← ec]; exact set_same _ _ (by omega)
            have hbit : (st.2.getD p 0).testBit j = true ↔ (∃ t : Nat, 0 ≤ t ∧ t < i ∧ (rd_T44 l t).f0 = (rd_T44 l i).f0) := by
              rw [g4]
              constructor
              · rintro ⟨x, x1, x2, x3⟩
                refine hdup' ⟨x, x1, ?_⟩
                obtain ⟨y1, y2⟩ := g3 x x1 x2
                rcases spotv_cases (hI.ok x x1) with ⟨_, _, p', j', g1, g2, _, g⟩ | ⟨_, _, p', g1, _, _, g⟩
                · rw [g] at y2 x3
                  simp only at y2 x3
                  rw [hits_small g, decide_eq_true_eq] at x2
                  rw [g1, e1, x2, x3, y2, ec]
                · rw [g] at y1; cases y1
              · intro z
                obtain ⟨x, x1, x2⟩ := hdup z
                have hh := hsame x x1 x2
                refine ⟨x, x1, hh, ?_⟩
                obtain ⟨y1, y2⟩ := g3 x x1 hh
                rcases spotv_cases (hI.ok x x1) with ⟨_, _, p', j', g1, g2, _, g⟩ | ⟨_, _, p', g1, _, _, g⟩
                · rw [g] at y2 ⊢
                  simp only at y2 ⊢
                  rw [hits_small g, decide_eq_true_eq] at hh
                  rw [y2, ec] at g1
                  have : (j' : Int) * wordsOf (class_of l[i].f1) = (j : Int) * wordsOf (class_of l[i].f1) := by omega
                  exact Int.eq_of_mul_eq_mul_right (by omega) this
                · rw [g] at y1; cases y1
            cases hb : (st.2.getD p 0).testBit j with
            | true =>
              have hl1 : layOf (spotv n l[i].f0 l[i].f1) st.1 st.2 = none := by
                rw [hl0, if_neg (fun z => by rw [and_testBit z.2] at hb; cases hb), if_neg (by omega)]
              have z := hbit.1 hb
              obtain ⟨k, rfl⟩ : ∃ m, k = m + 1 := ⟨k - 1, by omega⟩
              simp only [joistref13_Kinds.j3, Bool.false_eq_true, if_false]
              rw [hl1]
              exact (kinds_l2y (n := n) hl hil (ks := st.1) (p := p) (class_of l[i].f1) i 0 k (by omega) (by omega) z).trans rfl
            | false =>
              have hl1 : layOf (spotv n l[i].f0 l[i].f1) st.1 st.2 = some (st.1, st.2.set p (st.2.getD p 0 ||| 2 ^ j)) := by
                rw [hl0, if_pos ⟨ec, testBit_and hb⟩]
              rw [hj3 _ (by rw [hset]; exact hnext (st.1, st.2.set p (st.2.getD p 0 ||| 2 ^ j)) hl1), hl1]
              · rfl
              · intro z
                have := hbit.2 z
                rw [hb] at this; cases this
          · have hl1 : layOf (spotv n l[i].f0 l[i].f1) st.1 st.2 = none := by
              rw [hl0, if_neg (fun z => ec z.1), if_neg (by omega)]
            rw [bne_iff_ne.2 ec, hl1]
            obtain ⟨k, rfl⟩ : ∃ m, k = m + 1 := ⟨k - 1, by omega⟩
            simp only [joistref13_Kinds.j3, if_true]; rfl
        · have ec : st.1.getD p 0 ≠ class_of l[i].f1 := by omega
          have hl1 : layOf (spotv n l[i].f0 l[i].f1) st.1 st.2 = none := by
            rw [hl0, if_neg (fun z => ec z.1), if_neg (by omega)]
          rw [if_neg (by omega), bne_iff_ne.2 ec, hl1]
          obtain ⟨k, rfl⟩ : ∃ m, k = m + 1 := ⟨k - 1, by omega⟩
          simp only [joistref13_Kinds.j3, if_true]; rfl
      · have : cellOf l[i].f0 l[i].f1 = (0, 0, 0, false) := by unfold cellOf; rw [if_neg (by omega)]
        rw [this, e]
        simp only [Bool.false_eq_true, if_false]
        have hneed : 1 ≤ (l[i].f1 + 255) / 256 := by omega
        rw [e] at hnext
        generalize (l[i].f1 + 255) / 256 = need at e e3 hneed hnext ⊢
        obtain ⟨m, rfl⟩ : ∃ m : Nat, need = (m : Int) := ⟨need.toNat, by omega⟩
        have hl0 : layOf ((p : Int), (m : Int), false, 0, 0, true) st.1 st.2 = if freeK st.1 p m = true then some ((fillK st.1 p m).set p 6, st.2) else none := by
          unfold layOf; simp only [Bool.false_eq_true, if_false, Int.toNat_natCast]
        cases hf : freeK st.1 p m with
        | true =>
          have hl1 := hl0.trans (if_pos hf)
          have h3 := kinds_l3 (n := n) hl (ks := st.1) (by omega) hil (p := p) (m := m) (by omega) (by omega) hf _ (300 * d + 300) (hnext _ hl1) m 0 k (by omega) (by omega)
          rw [Nat.add_zero] at h3
          rw [show fillK st.1 p 0 = st.1 from rfl] at h3
          rw [h3, hl1]; rfl
        | false =>
          have hl1 := hl0.trans (if_neg (by rw [hf]; decide))
          have h3 := kinds_l3n (n := n) (l := l) (ks := st.1) (i := i) (by omega) (p := p) (m := m) (by omega) hf m 0 k (by omega) (by omega) rfl
          rw [Nat.add_zero] at h3
          rw [show fillK st.1 p 0 = st.1 from rfl] at h3
          rw [h3, hl1]; rfl
theorem kinds13_l0 {n : Nat} (hn : n ≤ 64) (l : List S44) (V : Option (List Int × Bool)) (B : Nat) (hV : ∀ k, B ≤ k → joistref13_Kinds.l1 k n l (List.replicate n (-1)) 0 = V) : ∀ (d j k : Nat), j + d = n → B + d + 1 ≤ k → joistref13_Kinds.l0 k n l (initK n j) j = V := by
  intro d
  induction d with
  | zero =>
    intro j k hj hk
    obtain rfl : j = n := by omega
    obtain ⟨k, rfl⟩ : ∃ m, k = m + 1 := ⟨k - 1, by omega⟩
    unfold joistref13_Kinds.l0
    rw [if_neg (by omega), show initK j j = List.replicate j (-1) from by unfold initK; rw [Nat.sub_self, List.replicate_zero, List.append_nil]]
    exact hV k (by omega)
  | succ d ih =>
    intro j k hj hk
    obtain ⟨k, rfl⟩ : ∃ m, k = m + 1 := ⟨k - 1, by omega⟩
    unfold joistref13_Kinds.l0
    rw [if_pos (by omega), if_pos (by omega), initK_length (by omega), if_pos (by omega), Int.toNat_natCast, initK_set (by omega), wrap_in (by omega) (by omega), show (j : Int) + 1 = ((j + 1 : Nat) : Int) by omega]
    exact ih (j + 1) k (by omega) (by omega)
/-- The document's kinds. -/
theorem kinds13_is (n : Int) {l : List S44} (hok : okL l = true) (hl : l.length ≤ 200) {k : Nat} (hk : 70000 ≤ k) :
    joistref13_Kinds.f k n l = some (match laid n l with | some st => (st.1, true) | none => ([], false)) := by
  unfold joistref13_Kinds.f laid
  obtain ⟨k, rfl⟩ : ∃ m, k = m + 1 := ⟨k - 1, by omega⟩
  by_cases h0 : n < 0
  · rw [if_pos h0, if_neg (by omega)]
    simp only [joistref13_Kinds.j0, if_true]
  · rw [if_neg h0]
    by_cases h1 : n > 64
    · rw [decide_eq_true h1, if_neg (by omega)]
      simp only [joistref13_Kinds.j0, if_true]
    · rw [decide_eq_false h1, if_pos (by omega)]
      obtain ⟨n, rfl⟩ : ∃ m : Nat, n = (m : Int) := ⟨n.toNat, by omega⟩
      simp only [joistref13_Kinds.j0, Bool.false_eq_true, if_false]
      rw [if_pos (by omega), Int.toNat_natCast, if_pos (by omega)]
      have h := kinds13_l0 (n := n) (by omega) l _ (300 * l.length + 300) (fun k hk => kinds_l1 (n := n) (by omega) hok hl l.length 0 k (List.replicate n (-1), List.replicate 64 0) (by omega) hk (by rw [List.take_zero]; exact inv_nil (by omega))) n 0 k (by omega) (by omega)
      rw [show initK n 0 = List.replicate n 0 from by unfold initK; rw [List.replicate_zero, List.nil_append, Nat.sub_zero]] at h
      exact h
end Go.Proofs.Ytlpkbekpdhaplaa.Pure
