/- The document's Place and Mates are the program's. -/
import Derived.Test.YtlpkbekpdhaplaaP15
import Derived.Test.YtlpkbekpdhaplaaX5
namespace Go.Proofs.Ytlpkbekpdhaplaa.Pure
open Go.RowKit Go.Proofs.Ytlpkbekpdhaplaa.P Go.Proofs.Ytlpkbekpdhaplaa.Open Go.Proofs.YtlpkbekpdhaplaaW.PrintWords Go.Proofs.YtlpkbekpdhaplaaW.PrintLast
set_option linter.unusedSimpArgs false
set_option linter.unusedVariables false

theorem wstep (j : Nat) (hj : j < 1000) : wrap64 ((j : Int) + 1) = ((j + 1 : Nat) : Int) := by rw [wrap_in (by omega) (by omega)]; omega
/-! ### Same -/
theorem same01_from (l : List Int) (hl : l.length ≤ 200) : ∀ (d k i : Nat), i + d = l.length → d < k → joistref01_Same.l0 k l l i = some true := by
  intro d
  induction d with
  | zero => intro k i hi hk; obtain ⟨k, rfl⟩ : ∃ m, k = m + 1 := ⟨k - 1, by omega⟩; unfold joistref01_Same.l0; rw [if_neg (by omega)]
  | succ d ih =>
    intro k i hi hk
    obtain ⟨k, rfl⟩ : ∃ m, k = m + 1 := ⟨k - 1, by omega⟩
    unfold joistref01_Same.l0
    rw [if_pos (by omega), if_pos (by omega), if_pos (by omega), if_pos rfl, wstep i (by omega)]
    exact ih k (i + 1) (by omega) (by omega)
theorem same01_is (l : List Int) (hl : l.length ≤ 200) {k : Nat} (hk : 300 ≤ k) : joistref01_Same.f k l l = some true := by
  unfold joistref01_Same.f; rw [if_pos rfl]; exact same01_from l hl l.length k 0 (by omega) (by omega)
theorem same13_from (l : List S44) (hl : l.length ≤ 200) : ∀ (d k i : Nat), i + d = l.length → d < k → joistlaw13_same.l0 k l l i = some true := by
  intro d
  induction d with
  | zero => intro k i hi hk; obtain ⟨k, rfl⟩ : ∃ m, k = m + 1 := ⟨k - 1, by omega⟩; unfold joistlaw13_same.l0; rw [if_neg (by omega)]
  | succ d ih =>
    intro k i hi hk
    obtain ⟨k, rfl⟩ : ∃ m, k = m + 1 := ⟨k - 1, by omega⟩
    unfold joistlaw13_same.l0
    rw [if_pos (by omega), if_pos (by omega), if_pos (by omega), beq_self_eq_true, beq_self_eq_true, if_neg (by decide), wstep i (by omega)]
    exact ih k (i + 1) (by omega) (by omega)
theorem same13_is (l : List S44) (hl : l.length ≤ 200) {k : Nat} (hk : 300 ≤ k) : joistlaw13_same.f k l l = some true := by
  unfold joistlaw13_same.f; rw [if_pos rfl]; exact same13_from l hl l.length k 0 (by omega) (by omega)
/-! ### Mates -/
theorem okL_at {l : List S44} (hok : okL l = true) {i : Nat} (hi : i < l.length) : -9223372036854775808 ≤ l[i].f0 ∧ l[i].f0 ≤ 9223372036854775807 := by
  unfold okL at hok
  rw [Bool.and_eq_true, List.all_eq_true] at hok
  have := hok.2 l[i] (List.getElem_mem hi)
  simp only [Bool.and_eq_true, decide_eq_true_eq] at this
  exact this
theorem mates13_l0 {n : Nat} (hn : n ≤ 64) {l : List S44} (hok : okL l = true) (hl : l.length ≤ 200) (hv : ∀ o ∈ l, (spotv n o.f0 o.f1).2.2.2.2.2 = true) {page : Int} (hp : -9223372036854775808 ≤ page ∧ page ≤ 9223372036854775807) :
    ∀ (d i k : Nat) (acc : List Int), i + d = l.length → 2 * d + 100 ≤ k → acc.length ≤ i → joistref13_Mates.l0 k n l page true acc i = some (acc ++ matesOf n page i (l.drop i)) := by
  intro d
  induction d with
  | zero =>
    intro i k acc hi hk ha
    obtain ⟨k, rfl⟩ : ∃ m, k = m + 2 := ⟨k - 2, by omega⟩
    simp only [joistref13_Mates.l0]
    rw [if_neg (by omega)]
    simp only [joistref13_Mates.j1, Bool.false_eq_true, if_false]
    rw [List.drop_of_length_le (by omega), matesOf, List.append_nil]
  | succ d ih =>
    intro i k acc hi hk ha
    obtain ⟨k, rfl⟩ : ∃ m, k = m + 2 := ⟨k - 2, by omega⟩
    have hil : i < l.length := by omega
    have hom := List.getElem_mem hil
    have hh := hv _ hom
    have hs := spotv_in n l[i].f0 l[i].f1 (by omega) (by omega) hh
    rw [Int.toNat_natCast] at hs
    have := hs.p0
    have := hs.p1
    have := hs.c0
    have := hs.c1
    rw [List.drop_eq_getElem_cons hil, matesOf]
    unfold joistref13_Mates.l0
    rw [if_pos (by omega)]
    unfold joistref13_Mates.j1
    rw [if_pos rfl, if_pos (by omega), if_pos (by omega), rd44_at l i hil, span_ok (by omega) (by omega) (okL_at hok hil).2 (by omega) hh]
    simp only [Option.bind_some]
    rw [wstep i (by omega)]
    have hno := ih (i + 1) k acc (by omega) (by omega) (by omega)
    by_cases c1 : page ≥ (spotv n l[i].f0 l[i].f1).1
    · rw [if_pos c1, wrap_in (by omega) (by omega)]
      by_cases c2 : page - (spotv n l[i].f0 l[i].f1).1 < (spotv n l[i].f0 l[i].f1).2.1
      · rw [if_pos c2, if_pos (by omega), ih (i + 1) k (acc ++ [(i : Int)]) (by omega) (by omega) (by rw [List.length_append, List.length_singleton]; omega)]
        rw [if_pos (by unfold hits; rw [decide_eq_true c1, decide_eq_true c2]; rfl), List.append_assoc]
      · rw [if_neg c2, hno, if_neg (by unfold hits; rw [decide_eq_false c2, Bool.and_false]; decide), List.nil_append]
    · rw [if_neg c1, hno, if_neg (by unfold hits; rw [decide_eq_false c1, Bool.false_and]; decide), List.nil_append]
theorem mates13_is (n : Int) {l : List S44} (hok : okL l = true) (hl : l.length ≤ 200) {page : Int} (hp : -9223372036854775808 ≤ page ∧ page ≤ 9223372036854775807) {k : Nat} (hk : 70000 ≤ k) :
    joistref13_Mates.f k n l page = some (match laid n l with | some _ => matesOf n page 0 l | none => []) := by
  unfold joistref13_Mates.f
  rw [kinds13_is n hok hl hk]
  simp only [Option.bind_some]
  cases hla : laid n l with
  | none =>
    obtain ⟨k, rfl⟩ : ∃ m, k = m + 2 := ⟨k - 2, by omega⟩
    simp only [joistref13_Mates.l0]
    split <;> simp only [joistref13_Mates.j1, Bool.false_eq_true, if_false]
  | some st =>
    obtain ⟨h0, h1, h2, h3⟩ := laid_length hla
    obtain ⟨n, rfl⟩ : ∃ m : Nat, n = (m : Int) := ⟨n.toNat, by omega⟩
    exact mates13_l0 (by omega) hok hl (laid_inv hla).ok hp l.length 0 k [] (by omega) (by omega) (Nat.le_refl _)
/-! ### Place -/
theorem taken_from {l : List S44} (hl : l.length ≤ 200) (a : Int) : ∀ (d k i : Nat), i + d = l.length → d < k → joistref13_taken.l0 k l a i = some ((l.drop i).any fun o => o.f0 == a) := by
  intro d
  induction d with
  | zero => intro k i hi hk; obtain ⟨k, rfl⟩ : ∃ m, k = m + 1 := ⟨k - 1, by omega⟩; unfold joistref13_taken.l0; rw [if_neg (by omega), List.drop_of_length_le (by omega)]; rfl
  | succ d ih =>
    intro k i hi hk
    obtain ⟨k, rfl⟩ : ∃ m, k = m + 1 := ⟨k - 1, by omega⟩
    have hil : i < l.length := by omega
    unfold joistref13_taken.l0
    rw [if_pos (by omega), if_pos (by omega), rd44_at l i hil, List.drop_eq_getElem_cons hil, List.any_cons, wstep i (by omega)]
    by_cases e : l[i].f0 = a
    · rw [if_pos e, beq_iff_eq.2 e, Bool.true_or]
    · rw [if_neg e, beq_false_of_ne e, Bool.false_or]; exact ih k (i + 1) (by omega) (by omega)
theorem taken_is {l : List S44} (hl : l.length ≤ 200) (a : Int) {k : Nat} (hk : 300 ≤ k) : joistref13_taken.f k l a = some (l.any fun o => o.f0 == a) := taken_from hl a l.length k 0 (by omega) (by omega)
/-- A cell is taken where its bit is set. -/
theorem taken_bit {n : Nat} {l : List S44} {ks : List Int} {cs : List Nat} (hI : Inv n l ks cs) {p : Nat} (hp : p < n) {c : Int} (hc : 0 ≤ c ∧ c < 6) (hk : ks.getD p 0 = c) {j : Nat} (hj : (j : Int) < 28 / wordsOf c) :
    (l.any fun o => o.f0 == (p : Int) * 32 + (4 + (j : Int) * wordsOf c)) = (cs.getD p 0).testBit j := by
  have hw := wordsOf_in hc.1 hc.2
  have hm : 0 ≤ (j : Int) * wordsOf c := Int.mul_nonneg (by omega) (by omega)
  have hm2 := (Int.le_ediv_iff_mul_le (show 0 < wordsOf c by omega)).1 (show (j : Int) + 1 ≤ 28 / wordsOf c by omega)
  rw [Int.add_mul] at hm2
  rcases hI.at_ p hp with ⟨g0, _⟩ | ⟨g0, g1, g2, g3, g4⟩ | ⟨g0, _⟩
  · omega
  · rw [Bool.eq_iff_iff, List.any_eq_true, g4]
    constructor
    · rintro ⟨x, x1, x2⟩
      rw [beq_iff_eq] at x2
      have hh : hits n p x = true := by
        rcases spotv_cases (hI.ok x x1) with ⟨_, _, p', j', f1, f2, _, g⟩ | ⟨_, _, p', f1, _, _, g⟩
        · have hc' := class_of_in x.f1
          have hw' := wordsOf_in hc'.1 hc'.2
          have hm' : 0 ≤ (j' : Int) * wordsOf (class_of x.f1) := Int.mul_nonneg (by omega) (by omega)
          have hm2' := (Int.le_ediv_iff_mul_le (show 0 < wordsOf (class_of x.f1) by omega)).1 (show (j' : Int) + 1 ≤ 28 / wordsOf (class_of x.f1) by omega)
          rw [Int.add_mul] at hm2'
          rw [hits_small g]
          exact decide_eq_true (by omega)
        · rw [hits_long g]
          exact decide_eq_true (by omega)
      refine ⟨x, x1, hh, ?_⟩
      obtain ⟨y1, y2⟩ := g3 x x1 hh
      rcases spotv_cases (hI.ok x x1) with ⟨_, _, p', j', f1, f2, _, g⟩ | ⟨_, _, p', f1, _, _, g⟩
      · rw [g] at y2 ⊢
        simp only at y2 ⊢
        rw [hits_small g, decide_eq_true_eq] at hh
        rw [y2, hk] at f1
        exact Int.eq_of_mul_eq_mul_right (show wordsOf c ≠ 0 by omega) (by omega)
      · rw [g] at y1; cases y1
    · rintro ⟨x, x1, x2, x3⟩
      refine ⟨x, x1, ?_⟩
      obtain ⟨y1, y2⟩ := g3 x x1 x2
      rcases spotv_cases (hI.ok x x1) with ⟨_, _, p', j', f1, f2, _, g⟩ | ⟨_, _, p', f1, _, _, g⟩
      · rw [g] at y2 x3
        simp only at y2 x3
        rw [hits_small g, decide_eq_true_eq] at x2
        rw [beq_iff_eq, f1, x2, x3, y2, hk]
      · rw [g] at y1; cases y1
  · omega
theorem word_at {n p j : Nat} (hp : p < n) (hn : n ≤ 64) {c : Int} (hc : 0 ≤ c ∧ c < 6) (hj : (j : Int) < 28 / wordsOf c) : wrap64 (wrap64 (32 * (p : Int)) + (4 + (j : Int) * wordsOf c)) = (p : Int) * 32 + (4 + (j : Int) * wordsOf c) := by
  have hw := wordsOf_in hc.1 hc.2
  have hm : 0 ≤ (j : Int) * wordsOf c := Int.mul_nonneg (by omega) (by omega)
  have hm2 := (Int.le_ediv_iff_mul_le (show 0 < wordsOf c by omega)).1 (show (j : Int) ≤ 28 / wordsOf c by omega)
  rw [wrap_in (n := 32 * (p : Int)) (by omega) (by omega), wrap_in (by omega) (by omega)]
  omega
theorem place_l1 {n : Nat} (hn : n ≤ 64) {l : List S44} (hl : l.length ≤ 200) {ks : List Int} {cs : List Nat} (hI : Inv n l ks cs) {p : Nat} (hp : p < n) {c : Int} (hc : 0 ≤ c ∧ c < 6) (hk : ks.getD p 0 = c) (M : Nat) (hM : (M : Int) = 28 / wordsOf c) (V : Option (Int × Bool)) (B : Nat) (hB : 300 ≤ B)
    (hV : ∀ k, B ≤ k → joistref13_Place.l0 k n l ks c M ((p + 1 : Nat) : Int) = V) :
    ∀ (d j k : Nat), j + d = M → B + 2 * d + 2 ≤ k → joistref13_Place.l1 k n l ks c M p j = match scanFrom (fun k => if (cs.getD p 0).testBit k = true then none else some k) d j with | some k => some ((p : Int) * 32 + (4 + (k : Int) * wordsOf c), true) | none => V := by
  have hlen := hI.len
  have hw := wordsOf_in hc.1 hc.2
  have hM2 : 28 / wordsOf c ≤ 28 := Int.ediv_le_self _ (by omega)
  intro d
  induction d with
  | zero =>
    intro j k hj hk
    obtain ⟨k, rfl⟩ : ∃ m, k = m + 2 := ⟨k - 2, by omega⟩
    simp only [joistref13_Place.l1]
    rw [if_neg (by omega)]
    simp only [joistref13_Place.j2, Bool.false_eq_true, if_false]
    rw [wstep p (by omega), hV k (by omega)]
    rfl
  | succ d ih =>
    intro j k hj hk2
    obtain ⟨k, rfl⟩ : ∃ m, k = m + 2 := ⟨k - 2, by omega⟩
    have hn2 := ih (j + 1) k (by omega) (by omega)
    unfold joistref13_Place.l1
    rw [if_pos (by omega), if_pos (by omega), if_pos (by omega), rd_nat, hk, beq_self_eq_true]
    unfold joistref13_Place.j2
    rw [if_pos rfl, cell12_is hc.1 hc.2 (by omega) (by omega)]
    simp only [Option.bind_some]
    rw [word_at hp hn hc (by omega), taken_is hl _ (by omega), taken_bit hI hp hc hk (by omega)]
    simp only [Option.bind_some, scanFrom]
    cases hb : (cs.getD p 0).testBit j with
    | true =>
      simp only [if_true]
      rw [wstep j (by omega)]
      exact hn2
    | false =>
      simp only [Bool.false_eq_true, if_false]
theorem place_l2 {n : Nat} (hn : n ≤ 64) {ks : List Int} (hlen : ks.length = n) {c : Int} (hc : 0 ≤ c ∧ c < 6) :
    ∀ (d p k : Nat), p + d = n → d < k → joistref13_Place.l2 k n ks c p = some (match scanFrom (pageOf ks) d p with | some p => ((p : Int) * 32 + 4, true) | none => (0, false)) := by
  have hw := wordsOf_in hc.1 hc.2
  intro d
  induction d with
  | zero =>
    intro p k hp hk
    obtain ⟨k, rfl⟩ : ∃ m, k = m + 1 := ⟨k - 1, by omega⟩
    unfold joistref13_Place.l2
    rw [if_neg (by omega)]
    rfl
  | succ d ih =>
    intro p k hp hk
    obtain ⟨k, rfl⟩ : ∃ m, k = m + 1 := ⟨k - 1, by omega⟩
    unfold joistref13_Place.l2
    rw [if_pos (by omega), if_pos (by omega), if_pos (by omega), rd_nat, wstep p (by omega)]
    simp only [scanFrom, pageOf]
    by_cases e : ks.getD p 0 = -1
    · have h1 : 1 ≤ 28 / wordsOf c := (Int.le_ediv_iff_mul_le (by omega)).2 (by omega)
      rw [if_pos e, if_pos e, cell12_is hc.1 hc.2 (Int.le_refl _) (by omega)]
      simp only [Option.bind_some]
      rw [Int.zero_mul, wrap_in (n := 32 * (p : Int)) (by omega) (by omega), wrap_in (by omega) (by omega)]
      congr 2; omega
    · rw [if_neg e, if_neg e]
      exact ih (p + 1) k (by omega) (by omega)
theorem place_l0 {n : Nat} (hn : n ≤ 64) {l : List S44} (hl : l.length ≤ 200) {ks : List Int} {cs : List Nat} (hI : Inv n l ks cs) {c : Int} (hc : 0 ≤ c ∧ c < 6) (M : Nat) (hM : (M : Int) = 28 / wordsOf c) :
    ∀ (d p k : Nat), p + d = n → 100 * d + 400 ≤ k → joistref13_Place.l0 k n l ks c M p = some (match scanFrom (slabOf ks cs c M) d p with | some (p, k) => ((p : Int) * 32 + (4 + (k : Int) * wordsOf c), true) | none => (match first (pageOf ks) n with | some p => ((p : Int) * 32 + 4, true) | none => (0, false))) := by
  have hlen := hI.len
  have hw := wordsOf_in hc.1 hc.2
  have hM2 : 28 / wordsOf c ≤ 28 := Int.ediv_le_self _ (by omega)
  have hM1 : 1 ≤ 28 / wordsOf c := (Int.le_ediv_iff_mul_le (by omega)).2 (by omega)
  intro d
  induction d with
  | zero =>
    intro p k hp hk
    obtain ⟨k, rfl⟩ : ∃ m, k = m + 1 := ⟨k - 1, by omega⟩
    simp only [joistref13_Place.l0]
    rw [if_neg (by omega)]
    exact place_l2 hn hlen hc n 0 k (by omega) (by omega)
  | succ d ih =>
    intro p k hp hk
    obtain ⟨k, rfl⟩ : ∃ m, k = m + 1 := ⟨k - 1, by omega⟩
    have hV := fun k hk => ih (p + 1) k (by omega) hk
    simp only [scanFrom, slabOf]
    unfold joistref13_Place.l0
    rw [if_pos (by omega)]
    by_cases e : ks.getD p 0 = c
    · rw [if_pos e]
      have h1 := place_l1 hn hl hI (p := p) (by omega) hc e M hM _ (100 * d + 400) (by omega) hV M 0 k (by omega) (by omega)
      refine (show _ = joistref13_Place.l1 k n l ks c M p ((0 : Nat) : Int) from rfl).trans (h1.trans ?_)
      unfold freeBit first
      cases scanFrom (fun k => if (cs.getD p 0).testBit k = true then none else some k) M 0 with
      | none => rfl
      | some b => rfl
    · rw [if_neg e]
      obtain ⟨k, rfl⟩ : ∃ m, k = m + 2 := ⟨k - 2, by omega⟩
      simp only [joistref13_Place.l1]
      rw [if_pos (by omega), if_pos (by omega), if_pos (by omega), rd_nat, beq_false_of_ne e]
      simp only [joistref13_Place.j2, Bool.false_eq_true, if_false]
      rw [wstep p (by omega), hV k (by omega)]
theorem place13_is (n : Int) {l : List S44} (hok : okL l = true) (hl : l.length ≤ 200) (size : Int) {k : Nat} (hk : 70000 ≤ k) :
    joistref13_Place.f k n l size = some (match laid n l with | none => (0, false) | some st => placeOf st.1 st.2 size) := by
  unfold joistref13_Place.f
  rw [kinds13_is n hok hl hk]
  simp only [Option.bind_some]
  cases hla : laid n l with
  | none => simp only [Bool.false_eq_true, if_false]
  | some st =>
    obtain ⟨h0, h1, h2, h3⟩ := laid_length hla
    obtain ⟨n, rfl⟩ : ∃ m : Nat, n = (m : Int) := ⟨n.toNat, by omega⟩
    simp only [if_true]
    rw [of12_is size (by omega)]
    unfold placeOf
    by_cases c1 : 1 ≤ size ∧ size ≤ 120
    · have hc := class_of_in size
      have hw := wordsOf_in hc.1 hc.2
      have hM1 : 1 ≤ 28 / wordsOf (class_of size) := (Int.le_ediv_iff_mul_le (by omega)).2 (by omega)
      rw [if_pos c1, if_pos c1]
      simp only [Option.bind_some, if_true]
      rw [cells12_is hc.1 hc.2]
      simp only [Option.bind_some]
      have hI := laid_inv hla
      have h := place_l0 (n := n) (by omega) hl hI hc (28 / wordsOf (class_of size)).toNat (by omega) n 0 k (by omega) (by omega)
      rw [Int.toNat_of_nonneg (by omega)] at h
      refine (show _ = joistref13_Place.l0 k n l st.1 (class_of size) (28 / wordsOf (class_of size)) ((0 : Nat) : Int) from rfl).trans (h.trans ?_)
      unfold cellRes
      rw [hI.len]
      unfold first
      cases scanFrom (slabOf st.1 st.2 (class_of size) (28 / wordsOf (class_of size)).toNat) n 0 with
      | none => rfl
      | some b => rfl
    · rw [if_neg c1, if_neg c1]
      simp only [Option.bind_some, Bool.false_eq_true, if_false]
      rw [pagesRef_is]
      simp only [Option.bind_some]
      by_cases c2 : 120 < size ∧ size ≤ 2048
      · rw [if_pos c2, if_pos c2, refBest_is st.1 _ (by omega) k (by omega)]
        simp only [Option.bind_some]
        cases hf : (specR 0 st.1 0).foldl (bstep ((size + 255) / 256)) none with
        | none =>
          show (if false = true then _ else some (wrap64 (32 * (0 : Int)), false)) = some (0, false)
          rw [if_neg (by decide), show (32 : Int) * 0 = 0 by decide, wrap_in (by omega) (by omega)]
        | some s =>
          have hrows : Rows_ 0 (specR 0 st.1 0) := (specR_rows st.1 0 0 (Nat.le_refl _)).weaken (by omega)
          have hb := best_of ((size + 255) / 256) (specR 0 st.1 0) 0 none hrows (fun c hc => by cases hc)
          rw [hf] at hb
          have hs : s ∈ specR 0 st.1 0 := by rcases hb.1 with h | h; cases h; exact h
          obtain ⟨q, m, rfl, g1, g2, g3, _⟩ := specR_mem st.1 0 0 s (Nat.le_refl _) hs
          simp only [bout, if_true]
          rw [wrap_in (by omega) (by omega), Int.mul_comm]
          rfl
      · rw [if_neg c2, if_neg c2, refBest_is st.1 _ (by omega) k (by omega)]
        simp only [Option.bind_some]
        have : ∀ (r : List S48), r.foldl (bstep 0) none = none := by
          intro r
          induction r with
          | nil => rfl
          | cons s r ih => rw [List.foldl_cons, bstep_no (by omega)]; exact ih
        rw [this]
        show (if false = true then _ else some (wrap64 (32 * (0 : Int)), false)) = some (0, false)
        rw [if_neg (by decide), show (32 : Int) * 0 = 0 by decide, wrap_in (by omega) (by omega)]
theorem PagesTells (a0 : Int) (l1 : List (S44)) (a2 : Int) (a3 : Int) (w0 : (Lit.int .i64 a0).wf = true) (w1 : (l1.length ≤ maxLen ∧ l1.length * 16 ≤ 140737488351232 ∧ ∀ x ∈ l1, ok44 x)) (w2 : (Lit.int .i64 a2).wf = true) (w3 : (Lit.int .i64 a3).wf = true) : ∃ k, joistlaw13_PagesTells.f k a0 l1 a2 a3 = some true := by
  obtain ⟨K, hK⟩ : ∃ K : Nat, K = 100000 := ⟨_, rfl⟩
  refine ⟨K, ?_⟩
  unfold joistlaw13_PagesTells.f
  rw [small_at (by omega)]
  simp only [Option.bind_some]
  by_cases hl : (l1.length : Int) > 200
  · rw [if_pos hl]
  · rw [if_neg hl]
    have hok : okL l1 = true := okL_of w1.2.2 (by omega)
    have hpg := wf_bounds w3
    simp only [List.length_nil, List.nil_append]
    rw [if_pos (show 0 + l1.length < 8796093022208 by omega), kinds_is hok, kinds13_is a0 hok (by omega) (by omega), place_is hok (by omega), place13_is a0 hok (by omega) a2 (by omega), mates_is hok hpg.2, mates13_is a0 hok (by omega) hpg (by omega)]
    simp only [Option.bind_some, if_true, beq_self_eq_true]
    cases hla : laid a0 l1 with
    | none =>
      simp only
      rw [same01_is [] (by simp) (k := K) (by omega)]
      simp only [Option.bind_some, if_true]
      rw [same13_is l1 (by omega) (k := K) (by omega)]
      simp only [Option.bind_some, beq_self_eq_true, if_true]
    | some st =>
      have h := laid_length hla
      have h2 : (matesOf a0 a3 0 l1).length ≤ 200 := by rw [mates_length]; have := List.countP_le_length (p := hits a0 a3) (l := l1); omega
      simp only
      rw [same01_is st.1 (by omega) (k := K) (by omega)]
      simp only [Option.bind_some, if_true]
      rw [same01_is _ h2 (k := K) (by omega)]
      simp only [Option.bind_some, if_true]
      rw [same13_is l1 (by omega) (k := K) (by omega)]
      simp only [Option.bind_some, beq_self_eq_true, if_true]
end Go.Proofs.Ytlpkbekpdhaplaa.Pure
