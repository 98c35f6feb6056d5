/- Rows of free pages, as the program and the document compute them; the row that fits best; the small case. -/
import Derived.Test.YtlpkbekpdhaplaaP8
import Derived.Test.YtlpkbekpdhaplaaOpenT
import Derived.OpenShut
namespace Go.Proofs.Ytlpkbekpdhaplaa.Pure
open Go.RowKit Go.Proofs.Ytlpkbekpdhaplaa.P Go.Proofs.Ytlpkbekpdhaplaa.Open Go.Proofs.YtlpkbekpdhaplaaW.PrintWords Go.Proofs.YtlpkbekpdhaplaaW.PrintLast
set_option linter.unusedSimpArgs false
set_option linter.unusedVariables false

theorem wrap_in {n : Int} (h0 : -9223372036854775808 ≤ n) (h1 : n ≤ 9223372036854775807) : wrap64 n = n := by unfold wrap64; omega
theorem small12 : joistlaw13_small.f 12 = some true := by decide +kernel
theorem small_at {k : Nat} (h : 12 ≤ k) : joistlaw13_small.f k = some true := at_rounds joistlaw13_small.mono h small12
/-- Rows of free pages; c pages ahead of i are free. -/
def specR : Nat → List Int → Nat → List S48
  | i, [], c => if c = 0 then [] else [⟨(i : Int) - c, c⟩]
  | i, k :: r, c => if k = -1 then specR (i + 1) r (c + 1) else (if c = 0 then [] else [⟨(i : Int) - c, c⟩]) ++ specR (i + 1) r 0
theorem bump_last (out : List S48) (s : S48) : bump (out ++ [s]) = out ++ [⟨s.f0, s.f1 + 1⟩] := by
  unfold bump
  have e : rd_T48 (out ++ [s]) (((out ++ [s]).length : Int) - 1) = s := by
    unfold rd_T48
    rw [List.length_append, List.length_singleton, show ((out.length + 1 : Nat) : Int) - 1 = (out.length : Int) by omega, Int.toNat_natCast, List.getD_eq_getElem?_getD, List.getElem?_append_right (Nat.le_refl _), Nat.sub_self]
    rfl
  rw [e, List.length_append, List.length_singleton, Nat.add_sub_cancel, List.set_append_right _ _ (Nat.le_refl _), Nat.sub_self]
  rfl
theorem runsOf_is : ∀ (r : List Int) (i : Nat) (out : List S48) (c : Nat), c ≤ i →
    runsOf i r (if c = 0 then (out, false) else (out ++ [⟨(i : Int) - c, c⟩], true)) = out ++ specR i r c := by
  intro r
  induction r with
  | nil =>
    intro i out c hc
    simp only [runsOf, specR]
    by_cases h : c = 0
    · rw [if_pos h, if_pos h, List.append_nil]
    · rw [if_neg h, if_neg h]
  | cons k r ih =>
    intro i out c hc
    simp only [runsOf, specR]
    by_cases hk : k = -1
    · rw [if_pos hk]
      by_cases h : c = 0
      · rw [if_pos h, h]
        have := ih (i + 1) out 1 (by omega)
        rw [if_neg (by decide)] at this
        unfold stepR
        rw [if_pos hk]
        simp only [Bool.false_eq_true, if_false]
        rw [← this]
        congr 4
        simp
      · rw [if_neg h]
        have := ih (i + 1) out (c + 1) (by omega)
        rw [if_neg (by omega)] at this
        unfold stepR
        rw [if_pos hk]
        simp only [if_true]
        rw [bump_last, ← this]
        congr 4
        all_goals simp
        omega
    · rw [if_neg hk]
      unfold stepR
      by_cases h : c = 0
      · rw [if_pos h, if_pos h, if_neg hk]
        have := ih (i + 1) out 0 (by omega)
        rw [if_pos rfl] at this
        rw [this]; rfl
      · rw [if_neg h, if_neg h, if_neg hk]
        have := ih (i + 1) (out ++ [⟨(i : Int) - c, c⟩]) 0 (by omega)
        rw [if_pos rfl] at this
        rw [this, List.append_assoc]
theorem runs_is (l : List Int) (hl : l.length ≤ 1024) : pages_Runs.f l = some (specR 0 l 0) := by
  unfold pages_Runs.f
  rw [if_pos (by omega)]
  have := runsOf_is l 0 [] 0 (Nat.le_refl _)
  rw [if_pos rfl, List.nil_append] at this
  rw [this]
theorem rd_drop' {l : List Int} {i : Nat} (h : i < l.length) : l.drop i = rd l (i : Int) :: l.drop (i + 1) := rd_drop h
/-- The document's rows. -/
theorem refRuns_from (l : List Int) (hl : l.length ≤ 1024) : ∀ (d : Nat),
    (∀ (k i : Nat) (out : List S48), i + d = l.length → 2 * d + 2 ≤ k → out.length ≤ i → joistref13_Runs.l0 k l out i = some (out ++ specR i (l.drop i) 0)) ∧
    (∀ (k i n : Nat) (out : List S48), 1 ≤ n → i + n + d = l.length → 2 * d + 2 ≤ k → out.length ≤ i → joistref13_Runs.l1 k l out i n = some (out ++ specR (i + n) (l.drop (i + n)) n)) := by
  have over : ∀ (k : Nat) (i : Int) (out : List S48), 0 < k → ¬ i < (l.length : Int) → joistref13_Runs.l0 k l out i = some out := by
    intro k i out hk hi
    obtain ⟨k, rfl⟩ : ∃ m, k = m + 1 := ⟨k - 1, by omega⟩
    simp only [joistref13_Runs.l0]
    rw [if_neg hi]
  intro d
  induction d with
  | zero =>
    refine ⟨fun k i out hi hk ho => ?_, fun k i n out hn hi hk ho => ?_⟩
    · rw [over k i out (by omega) (by omega), List.drop_of_length_le (by omega)]
      simp [specR]
    · obtain ⟨k, rfl⟩ : ∃ m, k = m + 1 := ⟨k - 1, by omega⟩
      simp only [joistref13_Runs.l1]
      rw [wrap_in (n := (i : Int) + n) (by omega) (by omega), if_neg (by omega), if_pos (by omega), wrap_in (n := (i : Int) + n + 1) (by omega) (by omega), over k _ _ (by omega) (by omega), List.drop_of_length_le (by omega)]
      simp only [specR]
      rw [if_neg (by omega)]
      congr 4
      omega
  | succ d ih =>
    obtain ⟨ih0, ih1⟩ := ih
    refine ⟨fun k i out hi hk ho => ?_, fun k i n out hn hi hk ho => ?_⟩
    · obtain ⟨k, rfl⟩ : ∃ m, k = m + 1 := ⟨k - 1, by omega⟩
      have hlt : i < l.length := by omega
      rw [rd_drop' hlt]
      simp only [joistref13_Runs.l0, specR]
      rw [if_pos (by omega), if_pos (by omega)]
      by_cases hf : rd l (i : Int) = -1
      · rw [if_pos hf, if_pos hf]
        obtain ⟨k, rfl⟩ : ∃ m, k = m + 1 := ⟨k - 1, by omega⟩
        simp only [joistref13_Runs.l1]
        rw [show (i : Int) + 0 = i by omega, wrap_in (n := (i : Int)) (by omega) (by omega), if_pos (by omega), if_pos (by omega), if_pos hf, show (0 : Int) + 1 = ((1 : Nat) : Int) by rfl, wrap_in (n := ((1 : Nat) : Int)) (by omega) (by omega)]
        exact ih1 k i 1 out (Nat.le_refl _) (by omega) (by omega) ho
      · rw [if_neg hf, if_neg hf, wrap_in (n := (i : Int) + 1) (by omega) (by omega)]
        have := ih0 k (i + 1) out (by omega) (by omega) (by omega)
        rw [if_pos trivial, List.nil_append]
        exact this
    · obtain ⟨k, rfl⟩ : ∃ m, k = m + 1 := ⟨k - 1, by omega⟩
      have hlt : i + n < l.length := by omega
      rw [rd_drop' hlt]
      simp only [joistref13_Runs.l1, specR]
      rw [wrap_in (n := (i : Int) + n) (by omega) (by omega), show (i : Int) + (n : Int) = ((i + n : Nat) : Int) by omega, if_pos (by omega), if_pos (by omega)]
      by_cases hf : rd l ((i + n : Nat) : Int) = -1
      · rw [if_pos hf, if_pos hf, wrap_in (n := (n : Int) + 1) (by omega) (by omega)]
        have := ih1 k i (n + 1) out (by omega) (by omega) (by omega) ho
        exact this
      · rw [if_neg hf, if_neg hf, if_pos (by omega), wrap_in (n := ((i + n : Nat) : Int) + 1) (by omega) (by omega)]
        have := ih0 k (i + n + 1) (out ++ [⟨(i : Int), n⟩]) (by omega) (by omega) (by rw [List.length_append, List.length_singleton]; omega)
        rw [if_neg (by omega)]
        rw [show ((i + n : Nat) : Int) - (n : Int) = (i : Int) by omega]
        rw [← List.append_assoc]
        exact this
theorem refRuns_is (l : List Int) (hl : l.length ≤ 1024) (k : Nat) (hk : 2 * l.length + 2 ≤ k) : joistref13_Runs.f k l = some (specR 0 l 0) :=
  (refRuns_from l hl l.length).1 k 0 [] (by omega) hk (Nat.le_refl _)
/-! ### What rows are -/
theorem specR_length : ∀ (r : List Int) (i c : Nat), (specR i r c).length ≤ r.length + 1 := by
  intro r
  induction r with
  | nil => intro i c; simp only [specR]; split <;> simp
  | cons k r ih =>
    intro i c
    simp only [specR]
    split
    · have := ih (i + 1) (c + 1); simp; omega
    · have := ih (i + 1) 0
      rw [List.length_append]
      split <;> simp <;> omega
def countF : List Int → Nat
  | [] => 0
  | k :: r => (if k = -1 then 1 else 0) + countF r
theorem countF_le : ∀ r : List Int, countF r ≤ r.length
  | [] => Nat.le_refl _
  | k :: r => by have := countF_le r; simp only [countF, List.length_cons]; split <;> omega
def sumR : List S48 → Int
  | [] => 0
  | s :: r => s.f1 + sumR r
theorem sumR_append (a b : List S48) : sumR (a ++ b) = sumR a + sumR b := by
  induction a with
  | nil => show sumR b = 0 + sumR b; omega
  | cons s a ih => show s.f1 + sumR (a ++ b) = s.f1 + sumR a + sumR b; omega
theorem specR_sum : ∀ (r : List Int) (i c : Nat), sumR (specR i r c) = (c : Int) + countF r := by
  intro r
  induction r with
  | nil =>
    intro i c
    simp only [specR, countF]
    split
    · rename_i h; rw [h]; rfl
    · show (c : Int) + 0 = _; omega
  | cons k r ih =>
    intro i c
    simp only [specR, countF]
    by_cases hk : k = -1
    · rw [if_pos hk, if_pos hk, ih]; omega
    · rw [if_neg hk, if_neg hk, sumR_append, ih]
      split
      · rename_i h; rw [h]; show (0 : Int) + _ = _; omega
      · show (c : Int) + 0 + _ = _; omega
/-- Rows behind a place, in order. -/
def Rows_ (lo : Int) : List S48 → Prop
  | [] => True
  | s :: r => lo ≤ s.f0 ∧ 1 ≤ s.f1 ∧ Rows_ (s.f0 + s.f1 + 1) r
theorem Rows_.weaken {lo lo' : Int} {r : List S48} (h : Rows_ lo r) (hl : lo' ≤ lo) : Rows_ lo' r := by
  cases r with
  | nil => trivial
  | cons s r => exact ⟨by have := h.1; omega, h.2⟩
theorem specR_rows : ∀ (r : List Int) (i c : Nat), c ≤ i → Rows_ ((i : Int) - c) (specR i r c) := by
  intro r
  induction r with
  | nil =>
    intro i c hc
    simp only [specR]
    split
    · trivial
    · exact ⟨Int.le_refl _, by show (1 : Int) ≤ c; omega, trivial⟩
  | cons k r ih =>
    intro i c hc
    simp only [specR]
    split
    · have := ih (i + 1) (c + 1) (by omega)
      exact this.weaken (by omega)
    · have := ih (i + 1) 0 (by omega)
      split
      · exact this.weaken (by omega)
      · exact ⟨Int.le_refl _, by show (1 : Int) ≤ c; omega, this.weaken (by show (i : Int) - c + c + 1 ≤ _; omega)⟩
theorem Rows_.lo {lo : Int} : ∀ {r : List S48}, Rows_ lo r → ∀ s ∈ r, lo ≤ s.f0 ∧ 1 ≤ s.f1
  | x :: r, ⟨h1, h2, h3⟩, s, hs => by
    rcases List.mem_cons.1 hs with rfl | hs
    · exact ⟨h1, h2⟩
    · have := Rows_.lo h3 s hs; omega
/-! ### The best row -/
def bstep (n : Int) (cur : Option S48) (s : S48) : Option S48 :=
  if 1 ≤ n ∧ n ≤ s.f1 then (match cur with | none => some s | some c => if s.f1 < c.f1 then some s else some c) else cur
theorem bstep_no {n : Int} {cur : Option S48} {s : S48} (h : ¬ (1 ≤ n ∧ n ≤ s.f1)) : bstep n cur s = cur := if_neg h
theorem bstep_new {n : Int} {s : S48} (h : 1 ≤ n ∧ n ≤ s.f1) : bstep n none s = some s := if_pos h
theorem bstep_lt {n : Int} {c s : S48} (h : 1 ≤ n ∧ n ≤ s.f1) (h2 : s.f1 < c.f1) : bstep n (some c) s = some s := by unfold bstep; rw [if_pos h]; exact if_pos h2
theorem bstep_ge {n : Int} {c s : S48} (h : 1 ≤ n ∧ n ≤ s.f1) (h2 : ¬ s.f1 < c.f1) : bstep n (some c) s = some c := by unfold bstep; rw [if_pos h]; exact if_neg h2
def bout : Option S48 → Int × Bool × Int
  | none => (0, false, 0)
  | some s => (s.f0, true, s.f1)
theorem drop_rd {l : List S48} {i : Nat} (h : i < l.length) : l.drop i = rd_T48 l i :: l.drop (i + 1) := by
  rw [List.drop_eq_getElem_cons h]
  congr 1
  unfold rd_T48
  rw [Int.toNat_natCast, List.getD_eq_getElem?_getD, List.getElem?_eq_getElem h]
  rfl
theorem Best_from (l : List S48) (n : Int) (hl : l.length ≤ 140737488351232) : ∀ (d k i : Nat) (cur : Option S48), i + d = l.length → d < k →
    pages_Best.l0 k n (bout cur).1 (bout cur).2.1 (bout cur).2.2 l (l.length : Int) i = some ((bout ((l.drop i).foldl (bstep n) cur)).1, (bout ((l.drop i).foldl (bstep n) cur)).2.1) := by
  intro d
  induction d with
  | zero =>
    intro k i cur hi hk
    obtain ⟨k, rfl⟩ : ∃ m, k = m + 1 := ⟨k - 1, by omega⟩
    simp only [pages_Best.l0]
    rw [if_neg (by omega), List.drop_of_length_le (by omega)]
    rfl
  | succ d ih =>
    intro k i cur hi hk
    obtain ⟨k, rfl⟩ : ∃ m, k = m + 1 := ⟨k - 1, by omega⟩
    have hlt : i < l.length := by omega
    rw [drop_rd hlt, List.foldl_cons]
    have hn := fun c => ih k (i + 1) c (by omega) (by omega)
    simp only [pages_Best.l0]
    rw [if_pos (by omega), if_pos (by omega), if_pos (by omega), wrap_in (n := (i : Int) + 1) (by omega) (by omega)]
    have e1 : ((i : Int) + 1) = ((i + 1 : Nat) : Int) := by omega
    rw [e1]
    by_cases h1 : n ≥ 1
    · rw [if_pos h1]
      by_cases h2 : (rd_T48 l i).f1 ≥ n
      · rw [if_pos h2]
        cases cur with
        | none =>
          rw [bstep_new ⟨h1, h2⟩, show (bout none).2.1 = false from rfl, if_neg (by decide)]
          exact hn (some (rd_T48 l i))
        | some c =>
          rw [show (bout (some c)).2.1 = true from rfl, show (bout (some c)).2.2 = c.f1 from rfl, if_pos rfl]
          by_cases h3 : (rd_T48 l i).f1 < c.f1
          · rw [if_pos h3, bstep_lt ⟨h1, h2⟩ h3]
            exact hn (some (rd_T48 l i))
          · rw [if_neg h3, bstep_ge ⟨h1, h2⟩ h3]
            exact hn (some c)
      · rw [if_neg h2, bstep_no (fun z => h2 z.2)]
        exact hn cur
    · rw [if_neg h1, bstep_no (fun z => h1 z.1)]
      exact hn cur
theorem best_is (l : List Int) (n : Int) (hl : l.length ≤ 1024) (k : Nat) (hk : l.length + 1 < k) :
    pages_Best.f k l n = some ((bout ((specR 0 l 0).foldl (bstep n) none)).1, (bout ((specR 0 l 0).foldl (bstep n) none)).2.1) := by
  unfold pages_Best.f
  rw [runs_is l hl]
  have hlen := specR_length l 0 0
  exact Best_from (specR 0 l 0) n (by omega) (specR 0 l 0).length k 0 none (by omega) (by omega)
theorem refBest_from (l : List S48) (n : Int) (hl : l.length ≤ 140737488351232) : ∀ (d k i : Nat) (cur : Option S48) (x7 : Int), i + d = l.length → d < k → (match cur with | none => x7 < 0 | some c => 0 ≤ x7 ∧ x7 < l.length ∧ rd_T48 l x7 = c) →
    joistref13_Best.l0 k n l x7 i = some ((bout ((l.drop i).foldl (bstep n) cur)).1, (bout ((l.drop i).foldl (bstep n) cur)).2.1) := by
  intro d
  induction d with
  | zero =>
    intro k i cur x7 hi hk hc
    obtain ⟨k, rfl⟩ : ∃ m, k = m + 1 := ⟨k - 1, by omega⟩
    simp only [joistref13_Best.l0]
    rw [if_neg (by omega), List.drop_of_length_le (by omega)]
    cases cur with
    | none => rw [if_pos hc]; rfl
    | some c =>
      obtain ⟨h0, h1, rfl⟩ := hc
      rw [if_neg (by omega), if_pos h0, if_pos h1]
      rfl
  | succ d ih =>
    intro k i cur x7 hi hk hc
    obtain ⟨k, rfl⟩ : ∃ m, k = m + 1 := ⟨k - 1, by omega⟩
    have hlt : i < l.length := by omega
    rw [drop_rd hlt, List.foldl_cons]
    simp only [joistref13_Best.l0]
    rw [if_pos (by omega), if_pos (by omega), wrap_in (n := (i : Int) + 1) (by omega) (by omega)]
    have e1 : ((i : Int) + 1) = ((i + 1 : Nat) : Int) := by omega
    rw [e1]
    have hnew := ih k (i + 1) (some (rd_T48 l i)) i (by omega) (by omega) ⟨by omega, by omega, rfl⟩
    have hold := ih k (i + 1) cur x7 (by omega) (by omega) hc
    by_cases h2 : (rd_T48 l i).f1 ≥ n
    · rw [if_pos h2]
      by_cases h1 : n ≥ 1
      · rw [if_pos h1]
        cases cur with
        | none =>
          simp only at hc
          rw [if_pos hc, bstep_new ⟨h1, h2⟩]
          exact hnew
        | some c =>
          obtain ⟨h0, h3, h4⟩ := hc
          rw [if_neg (by omega), if_pos h0, if_pos h3, h4]
          by_cases h5 : (rd_T48 l i).f1 < c.f1
          · rw [if_pos h5, bstep_lt ⟨h1, h2⟩ h5]; exact hnew
          · rw [if_neg h5, bstep_ge ⟨h1, h2⟩ h5]; exact hold
      · rw [if_neg h1, bstep_no (fun z => h1 z.1)]
        exact hold
    · rw [if_neg h2, bstep_no (fun z => h2 z.2)]
      exact hold
theorem refBest_is (l : List Int) (n : Int) (hl : l.length ≤ 1024) (k : Nat) (hk : 2 * l.length + 2 ≤ k) :
    joistref13_Best.f k l n = some ((bout ((specR 0 l 0).foldl (bstep n) none)).1, (bout ((specR 0 l 0).foldl (bstep n) none)).2.1) := by
  unfold joistref13_Best.f
  rw [refRuns_is l hl k hk]
  have hlen := specR_length l 0 0
  exact refBest_from (specR 0 l 0) n (by omega) (specR 0 l 0).length k 0 none (-1) (by omega) (by omega) (show (-1 : Int) < 0 by omega)
/-- What the best row is. -/
theorem best_of (n : Int) : ∀ (l : List S48) (lo : Int) (cur : Option S48), Rows_ lo l → (∀ c, cur = some c → c.f0 < lo ∧ 1 ≤ n ∧ n ≤ c.f1) →
    match l.foldl (bstep n) cur with
    | none => cur = none ∧ ∀ x ∈ l, ¬ (1 ≤ n ∧ n ≤ x.f1)
    | some s => (cur = some s ∨ s ∈ l) ∧ 1 ≤ n ∧ n ≤ s.f1 ∧ (∀ x ∈ l, n ≤ x.f1 → s.f1 ≤ x.f1 ∧ (x.f1 = s.f1 → s.f0 ≤ x.f0)) ∧ ∀ c, cur = some c → s.f1 ≤ c.f1 ∧ (c.f1 = s.f1 → s.f0 ≤ c.f0) := by
  intro l
  induction l with
  | nil =>
    intro lo cur _ hc
    cases cur with
    | none => exact ⟨rfl, by simp⟩
    | some c => exact ⟨.inl rfl, (hc c rfl).2.1, (hc c rfl).2.2, by simp, fun d hd => by obtain rfl := Option.some.inj hd; exact ⟨Int.le_refl _, fun _ => Int.le_refl _⟩⟩
  | cons s l ih =>
    intro lo cur hr hc
    obtain ⟨r1, r2, r3⟩ := hr
    rw [List.foldl_cons]
    have h := ih (s.f0 + s.f1 + 1) (bstep n cur s) r3 (by
      intro c hcc
      unfold bstep at hcc
      by_cases hq : 1 ≤ n ∧ n ≤ s.f1
      · rw [if_pos hq] at hcc
        cases cur with
        | none => obtain rfl := Option.some.inj hcc; exact ⟨by omega, hq⟩
        | some d =>
          have hd := hc d rfl
          simp only at hcc
          split at hcc
          · obtain rfl := Option.some.inj hcc; exact ⟨by omega, hq⟩
          · obtain rfl := Option.some.inj hcc; exact ⟨by omega, hd.2⟩
      · rw [if_neg hq] at hcc
        have hd := hc c hcc
        exact ⟨by omega, hd.2⟩)
    generalize l.foldl (bstep n) (bstep n cur s) = r at h ⊢
    cases r with
    | none =>
      obtain ⟨h1, h2⟩ := h
      unfold bstep at h1
      by_cases hq : 1 ≤ n ∧ n ≤ s.f1
      · rw [if_pos hq] at h1
        cases cur with
        | none => cases h1
        | some d => simp only at h1; split at h1 <;> cases h1
      · rw [if_neg hq] at h1
        exact ⟨h1, fun x hx => by rcases List.mem_cons.1 hx with rfl | hx; exact hq; exact h2 x hx⟩
    | some t =>
      obtain ⟨h1, h2, h3, h4, h5⟩ := h
      unfold bstep at h1 h5
      by_cases hq : 1 ≤ n ∧ n ≤ s.f1
      · rw [if_pos hq] at h1 h5
        cases cur with
        | none =>
          simp only at h1 h5
          refine ⟨.inr ?_, h2, h3, fun x hx hxs => ?_, fun c hcc => by cases hcc⟩
          · rcases h1 with h1 | h1
            · obtain rfl := Option.some.inj h1; exact List.mem_cons_self
            · exact List.mem_cons_of_mem _ h1
          · rcases List.mem_cons.1 hx with rfl | hx
            · exact h5 _ rfl
            · exact h4 x hx hxs
        | some d =>
          have hd := hc d rfl
          simp only at h1 h5
          by_cases hlt : s.f1 < d.f1
          · rw [if_pos hlt] at h1 h5
            refine ⟨.inr ?_, h2, h3, fun x hx hxs => ?_, fun c hcc => ?_⟩
            · rcases h1 with h1 | h1
              · obtain rfl := Option.some.inj h1; exact List.mem_cons_self
              · exact List.mem_cons_of_mem _ h1
            · rcases List.mem_cons.1 hx with rfl | hx
              · exact h5 _ rfl
              · exact h4 x hx hxs
            · obtain rfl := Option.some.inj hcc
              have := h5 s rfl
              omega
          · rw [if_neg hlt] at h1 h5
            refine ⟨?_, h2, h3, fun x hx hxs => ?_, h5⟩
            · rcases h1 with h1 | h1
              · exact .inl h1
              · exact .inr (List.mem_cons_of_mem _ h1)
            · rcases List.mem_cons.1 hx with rfl | hx
              · have := h5 d rfl
                exact ⟨by omega, fun e => by omega⟩
              · exact h4 x hx hxs
      · rw [if_neg hq] at h1 h5
        refine ⟨?_, h2, h3, fun x hx hxs => ?_, h5⟩
        · rcases h1 with h1 | h1
          · exact .inl h1
          · exact .inr (List.mem_cons_of_mem _ h1)
        · rcases List.mem_cons.1 hx with rfl | hx
          · exact absurd ⟨h2, hxs⟩ hq
          · exact h4 x hx hxs
end Go.Proofs.Ytlpkbekpdhaplaa.Pure
