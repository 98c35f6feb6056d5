/- Place: in plain words; what it tells can be laid, and where it tells nothing nothing can be laid. -/
import Derived.Test.YtlpkbekpdhaplaaX2
namespace Go.Proofs.Ytlpkbekpdhaplaa.Pure
open Go.RowKit Go.Proofs.Ytlpkbekpdhaplaa.P Go.Proofs.Ytlpkbekpdhaplaa.Open Go.Proofs.YtlpkbekpdhaplaaW.PrintWords Go.Proofs.YtlpkbekpdhaplaaW.PrintLast
set_option linter.unusedSimpArgs false
set_option linter.unusedVariables false

def placeOf (ks : List Int) (cs : List Nat) (size : Int) : Int × Bool :=
  if 1 ≤ size ∧ size ≤ 120 then cellRes ks cs (class_of size)
  else if 120 < size ∧ size ≤ 2048 then (match (specR 0 ks 0).foldl (bstep ((size + 255) / 256)) none with | none => (0, false) | some s => (s.f0 * 32, true))
  else (0, false)
theorem place_is {n : Int} {l : List S44} {size : Int} (h : okL l = true) {k : Nat} (hk : 70 ≤ k) :
    pages_Place.f k n l size = some (match laid n l with | none => (0, false) | some st => placeOf st.1 st.2 size) := by
  unfold pages_Place.f
  rw [if_pos h]
  cases hla : laid n l with
  | none => rfl
  | some st =>
    obtain ⟨h0, h1, h2, h3⟩ := laid_length hla
    simp only
    unfold placeOf
    by_cases c1 : 1 ≤ size ∧ size ≤ 120
    · rw [if_pos c1, if_pos c1]
    · rw [if_neg c1, if_neg c1, pagesOf_is]
      simp only [Option.bind_some]
      by_cases c2 : 120 < size ∧ size ≤ 2048
      · rw [if_pos c2, if_pos c2, if_pos (show ((size + 255) / 256, (0 : Int)).2 = 0 from rfl), best_is st.1 _ (by omega) k (by omega)]
        simp only [Option.bind_some]
        have hrows : Rows_ 0 (specR 0 st.1 0) := (specR_rows st.1 0 0 (Nat.le_refl _)).weaken (by omega)
        have hb := best_of ((size + 255) / 256) (specR 0 st.1 0) 0 none hrows (fun c hc => by cases hc)
        cases hf : (specR 0 st.1 0).foldl (bstep ((size + 255) / 256)) none with
        | none =>
          show some (wrap64 ((0 : Int) * 32), false) = some (0, false)
          rw [show (0 : Int) * 32 = 0 by decide, wrap_in (by omega) (by omega)]
        | some s =>
          rw [hf] at hb
          have hs : s ∈ specR 0 st.1 0 := by rcases hb.1 with h | h; cases h; exact h
          obtain ⟨q, m, rfl, g1, g2, g3, _⟩ := specR_mem st.1 0 0 s (Nat.le_refl _) hs
          simp only [bout]
          rw [wrap_in (by omega) (by omega)]
      · rw [if_neg c2, if_neg c2, if_neg (by decide)]
theorem getD_set_ne {ks : List Int} {p q : Nat} {v : Int} (h : p ≠ q) : (ks.set p v).getD q 0 = ks.getD q 0 := by
  rw [List.getD_eq_getElem?_getD, List.getElem?_set_ne h, ← List.getD_eq_getElem?_getD]
theorem getD_set_eq {ks : List Int} {p : Nat} {v : Int} (h : p < ks.length) : (ks.set p v).getD p 0 = v := by
  rw [List.getD_eq_getElem?_getD, List.getElem?_set_self h]; rfl
theorem rd_nat (ks : List Int) (p : Nat) : rd ks (p : Int) = ks.getD p 0 := by unfold rd; rw [Int.toNat_natCast]
theorem testBit_and {c k : Nat} (h : c.testBit k = false) : c &&& 2 ^ k = 0 := by
  apply Nat.eq_of_testBit_eq
  intro i
  rw [Nat.testBit_and, Nat.testBit_two_pow, Nat.zero_testBit]
  by_cases e : k = i
  · subst e; rw [h]; rfl
  · simp [e]
theorem and_testBit {c k : Nat} (h : c &&& 2 ^ k = 0) : c.testBit k = false := by
  have := congrArg (Nat.testBit · k) h
  simp only [Nat.testBit_and, Nat.testBit_two_pow_self, Bool.and_true, Nat.zero_testBit] at this
  exact this
/-- What Place tells can be laid, and other pages keep their kinds. -/
theorem place_good {ks : List Int} {cs : List Nat} {size : Int} {n : Nat} (hn : n ≤ 64) (hk : ks.length = n) {at_ : Int} (h : placeOf ks cs size = (at_, true)) :
    (spotv n at_ size).2.2.2.2.2 = true ∧ ∃ st, layOf (spotv n at_ size) ks cs = some st ∧ ∀ p : Nat, p < n → ks.getD p 0 ≠ -1 → st.1.getD p 0 = ks.getD p 0 := by
  unfold placeOf at h
  by_cases c1 : 1 ≤ size ∧ size ≤ 120
  · rw [if_pos c1] at h
    unfold cellRes at h
    have hc := class_of_in size
    have hw := wordsOf_in hc.1 hc.2
    have hM : 0 ≤ 28 / wordsOf (class_of size) := Int.ediv_nonneg (by omega) (by omega)
    cases h1 : first (slabOf ks cs (class_of size) (28 / wordsOf (class_of size)).toNat) ks.length with
    | some pk =>
      obtain ⟨p, k⟩ := pk
      rw [h1] at h
      simp only [Prod.mk.injEq, and_true] at h
      obtain ⟨q, q1, q2, q3⟩ := first_some h1
      unfold slabOf at q3
      split at q3
      · rename_i hkp
        unfold freeBit at q3
        cases h2 : first (fun k => if (cs.getD q 0).testBit k = true then none else some k) (28 / wordsOf (class_of size)).toNat with
        | none => rw [h2] at q3; cases q3
        | some k' =>
          rw [h2] at q3
          simp only [Option.map_some, Option.some.injEq, Prod.mk.injEq] at q3
          obtain ⟨rfl, rfl⟩ := q3
          obtain ⟨b, b1, b2, b3⟩ := first_some h2
          split at b3
          · cases b3
          · rename_i hbit
            obtain rfl := Option.some.inj b3
            subst h
            rw [spotv_cell n size q b c1 (by omega)]
            refine ⟨decide_eq_true (by omega), ?_⟩
            unfold layOf
            simp only [if_true, Int.toNat_natCast, rd_nat]
            rw [if_pos ⟨hkp, testBit_and (by simpa using hbit)⟩]
            exact ⟨_, rfl, fun p _ _ => rfl⟩
      · cases q3
    | none =>
      rw [h1] at h
      simp only at h
      cases h2 : first (pageOf ks) ks.length with
      | none => rw [h2] at h; simp at h
      | some p =>
        rw [h2] at h
        simp only [Prod.mk.injEq, and_true] at h
        obtain ⟨q, q1, q2, q3⟩ := first_some h2
        unfold pageOf at q3
        split at q3
        · rename_i hkp
          obtain rfl := Option.some.inj q3
          have e : at_ = (q : Int) * 32 + (4 + ((0 : Nat) : Int) * wordsOf (class_of size)) := by omega
          rw [e, spotv_cell n size q 0 c1 (by
            have : 1 ≤ 28 / wordsOf (class_of size) := (Int.le_ediv_iff_mul_le (by omega)).2 (by omega)
            omega)]
          refine ⟨decide_eq_true (by omega), ?_⟩
          unfold layOf
          simp only [if_true, Int.toNat_natCast, rd_nat]
          rw [if_neg (by rw [hkp]; omega), if_pos hkp]
          refine ⟨_, rfl, fun p _ hp => ?_⟩
          by_cases e2 : q = p
          · rw [e2] at hkp; exact absurd hkp hp
          · exact getD_set_ne e2
        · cases q3
  · rw [if_neg c1] at h
    by_cases c2 : 120 < size ∧ size ≤ 2048
    · rw [if_pos c2] at h
      have hrows : Rows_ 0 (specR 0 ks 0) := (specR_rows ks 0 0 (Nat.le_refl _)).weaken (by omega)
      have hb := best_of ((size + 255) / 256) (specR 0 ks 0) 0 none hrows (fun c hc => by cases hc)
      cases hf : (specR 0 ks 0).foldl (bstep ((size + 255) / 256)) none with
      | none => rw [hf] at h; simp at h
      | some s =>
        rw [hf] at h hb
        simp only [Prod.mk.injEq, and_true] at h
        obtain ⟨b1, b2, b3, _⟩ := hb
        have hs : s ∈ specR 0 ks 0 := by rcases b1 with h | h; cases h; exact h
        obtain ⟨q, m, rfl, g1, g2, g3, g4⟩ := specR_mem ks 0 0 s (Nat.le_refl _) hs
        simp only at h b3
        subst h
        rw [spotv_long n size q c2]
        refine ⟨decide_eq_true ⟨by omega, by omega⟩, ?_⟩
        unfold layOf
        simp only [Bool.false_eq_true, if_false, Int.toNat_natCast]
        rw [if_pos (freeK_of fun j hj => by have := g4 (q + j) (by omega) (by omega) (by omega); rwa [Nat.sub_zero] at this)]
        refine ⟨_, rfl, fun p hp hp2 => ?_⟩
        have hout : ¬ (q ≤ p ∧ p < q + ((size + 255) / 256).toNat) := by
          rintro ⟨z1, z2⟩
          have := g4 p z1 (by omega) (by omega)
          rw [Nat.sub_zero] at this
          exact hp2 this
        rw [getD_set_ne (by omega), fillK_get, if_neg (by omega)]
    · rw [if_neg c2] at h; simp at h
/-- Where Place tells nothing, nothing can be laid. -/
theorem place_full {ks : List Int} {cs : List Nat} {size : Int} {n : Nat} (hn : n ≤ 64) (hk : ks.length = n) (h : (placeOf ks cs size).2 = false) (at_ : Int) (hs : (spotv n at_ size).2.2.2.2.2 = true) :
    layOf (spotv n at_ size) ks cs = none := by
  have hin := spotv_in n at_ size (by omega) (by omega) hs
  rw [Int.toNat_natCast] at hin
  unfold placeOf at h
  unfold spotv at hs hin ⊢
  by_cases c0 : at_ < 0
  · rw [if_pos c0] at hs; cases hs
  · rw [if_neg c0] at hs hin ⊢
    by_cases c1 : 1 ≤ size ∧ size ≤ 120
    · rw [if_pos c1] at h hs hin ⊢
      have hc := class_of_in size
      have hw := wordsOf_in hc.1 hc.2
      unfold cellRes at h
      by_cases c3 : 4 ≤ at_ % 32 ∧ (at_ % 32 - 4) % wordsOf (class_of size) = 0 ∧ (at_ % 32 - 4) / wordsOf (class_of size) < 28 / wordsOf (class_of size)
      · rw [if_pos c3] at hs hin ⊢
        obtain ⟨p0, p1, _, _, e0, e1, k0⟩ := hin
        simp only at p0 p1 e0 e1
        obtain ⟨_, _, c33⟩ := c3
        generalize (at_ % 32 - 4) / wordsOf (class_of size) = cell at e0 e1 c33 ⊢
        generalize at_ / 32 = page at p0 p1 ⊢
        obtain ⟨p, rfl⟩ : ∃ p : Nat, page = (p : Int) := ⟨page.toNat, by omega⟩
        obtain ⟨b, rfl⟩ : ∃ b : Nat, cell = (b : Int) := ⟨cell.toNat, by omega⟩
        unfold layOf
        simp only [if_true, Int.toNat_natCast, rd_nat]
        cases h1 : first (slabOf ks cs (class_of size) (28 / wordsOf (class_of size)).toNat) ks.length with
        | some pk => rw [h1] at h; simp at h
        | none =>
          rw [h1] at h
          cases h2 : first (pageOf ks) ks.length with
          | some q => rw [h2] at h; simp at h
          | none =>
            rw [if_neg, if_neg]
            · intro z
              have := first_has (f := pageOf ks) (d := ks.length) (i := 0) (q := p) (Nat.zero_le _) (by omega) (by unfold pageOf; rw [if_pos z]; rfl)
              unfold first at h2
              rw [h2] at this; cases this
            · rintro ⟨z1, z2⟩
              have hb := and_testBit z2
              have hfb : (freeBit (cs.getD p 0) (28 / wordsOf (class_of size)).toNat).isSome = true :=
                first_has (i := 0) (q := b) (Nat.zero_le _) (by omega) (by rw [hb]; rfl)
              have := first_has (f := slabOf ks cs (class_of size) (28 / wordsOf (class_of size)).toNat) (d := ks.length) (i := 0) (q := p) (Nat.zero_le _) (by omega) (by unfold slabOf; rw [if_pos z1, Option.isSome_map]; exact hfb)
              unfold first at h1
              rw [h1] at this; cases this
      · rw [if_neg c3] at hs; cases hs
    · rw [if_neg c1] at h hs hin ⊢
      by_cases c2 : 120 < size ∧ size ≤ 2048
      · rw [if_pos c2] at h hs hin ⊢
        obtain ⟨p0, p1, e0, e1, _, _, _⟩ := hin
        simp only at p0 p1 e0 e1
        generalize at_ / 32 = page at p0 p1 e1 ⊢
        obtain ⟨p, rfl⟩ : ∃ p : Nat, page = (p : Int) := ⟨page.toNat, by omega⟩
        have hneed : 1 ≤ (size + 255) / 256 := by omega
        generalize (size + 255) / 256 = need at e0 e1 hneed h ⊢
        obtain ⟨m, rfl⟩ : ∃ m : Nat, need = (m : Int) := ⟨need.toNat, by omega⟩
        unfold layOf
        simp only [Bool.false_eq_true, if_false, Int.toNat_natCast]
        rw [if_neg]
        intro hf
        obtain ⟨s, hs1, hs2⟩ := specR_has ks 0 0 p m (by omega) (fun j hj => freeK_lt hf hj) (by omega)
        have hrows : Rows_ 0 (specR 0 ks 0) := (specR_rows ks 0 0 (Nat.le_refl _)).weaken (by omega)
        have hb := best_of (m : Int) (specR 0 ks 0) 0 none hrows (fun c hc => by cases hc)
        cases hf2 : (specR 0 ks 0).foldl (bstep (m : Int)) none with
        | none =>
          rw [hf2] at hb
          exact hb.2 s hs1 ⟨by omega, by split at hs2 <;> omega⟩
        | some t => rw [hf2] at h; simp at h
      · rw [if_neg c2] at hs; cases hs
end Go.Proofs.Ytlpkbekpdhaplaa.Pure
