/- The row that fits best is one of the rows, and none that is long enough is shorter, or alike and ahead of it; the rows hold all free pages. -/
import Derived.Test.YtlpkbekpdhaplaaP10
import Derived.Test.YtlpkbekpdhaplaaX1
namespace Go.Proofs.Ytlpkbekpdhaplaa.Pure
open Go.RowKit Go.Proofs.Ytlpkbekpdhaplaa.P Go.Proofs.YtlpkbekpdhaplaaW.PrintWords Go.Proofs.YtlpkbekpdhaplaaW.PrintLast
set_option linter.unusedVariables false

theorem rd48_mem {l : List S48} {i : Nat} (h : i < l.length) : rd_T48 l (i : Int) ∈ l := rdS_mem (by omega) (by omega)
/-- The last loop: no row that is long enough is better. -/
theorem least_l2 (n : Int) (R : List S48) (hR : R.length ≤ 1025) (x7 size : Int) (x8 : Bool) (hx : ∀ s ∈ R, 1 ≤ n → n ≤ s.f1 → x8 = true ∧ size ≤ s.f1 ∧ (s.f1 = size → x7 ≤ s.f0)) :
    ∀ (d k i : Nat), i + d = R.length → d < k → joistlaw13_PagesLeast.l2 k n true R x7 x8 size i = some true := by
  intro d
  induction d with
  | zero =>
    intro k i hi hk
    obtain ⟨k, rfl⟩ : ∃ m, k = m + 1 := ⟨k - 1, by omega⟩
    simp only [joistlaw13_PagesLeast.l2]
    rw [if_neg (by omega)]
  | succ d ih =>
    intro k i hi hk
    obtain ⟨k, rfl⟩ : ∃ m, k = m + 1 := ⟨k - 1, by omega⟩
    have hlt : i < R.length := by omega
    have hx' := hx _ (rd48_mem hlt)
    have hn := ih k (i + 1) (by omega) (by omega)
    simp only [joistlaw13_PagesLeast.l2]
    rw [wrap_in (n := (i : Int) + 1) (by omega) (by omega), show ((i : Int) + 1) = ((i + 1 : Nat) : Int) by omega, if_pos (by omega)]
    by_cases h1 : n ≥ 1
    · rw [if_pos h1, if_pos (by omega)]
      by_cases h2 : (rd_T48 R i).f1 ≥ n
      · obtain ⟨h3, h4, h5⟩ := hx' h1 h2
        rw [if_pos h2, if_pos h3, if_neg (by omega)]
        by_cases h6 : (rd_T48 R i).f1 = size
        · have := h5 h6
          rw [if_pos h6, if_neg (by omega)]
          exact hn
        · rw [if_neg h6]
          exact hn
      · rw [if_neg h2]
        exact hn
    · rw [if_neg h1]
      exact hn
/-- How long the row at a place is: 0 if there is none. -/
def sizeAt (x7 : Int) : List S48 → Int → Int
  | [], z => z
  | s :: r, z => sizeAt x7 r (if s.f0 = x7 then s.f1 else z)
theorem sizeAt_not {x7 : Int} : ∀ {r : List S48} {z : Int}, (∀ s ∈ r, s.f0 ≠ x7) → sizeAt x7 r z = z
  | [], z, _ => rfl
  | s :: r, z, h => by
    simp only [sizeAt]
    rw [if_neg (h s List.mem_cons_self)]
    exact sizeAt_not fun t ht => h t (List.mem_cons_of_mem _ ht)
theorem sizeAt_is {x7 : Int} : ∀ {r : List S48} {z lo : Int} {s : S48}, Rows_ lo r → s ∈ r → s.f0 = x7 → sizeAt x7 r z = s.f1
  | t :: r, z, lo, s, ⟨h1, h2, h3⟩, hs, e => by
    simp only [sizeAt]
    rcases List.mem_cons.1 hs with rfl | hs
    · rw [if_pos e]
      exact sizeAt_not fun u hu => by have := Rows_.lo h3 u hu; omega
    · exact sizeAt_is h3 hs e
theorem sumR_drop {R : List S48} {i : Nat} (h : i < R.length) : sumR (R.drop i) = (rd_T48 R i).f1 + sumR (R.drop (i + 1)) := by
  rw [drop_rd h]; rfl
theorem sumR_nonneg : ∀ {r : List S48} {lo : Int}, Rows_ lo r → 0 ≤ sumR r
  | [], _, _ => Int.le_refl _
  | s :: r, lo, ⟨h1, h2, h3⟩ => by have := sumR_nonneg h3; show 0 ≤ s.f1 + sumR r; omega
theorem rows_drop : ∀ {r : List S48} {lo : Int} (i : Nat), Rows_ lo r → ∃ lo', Rows_ lo' (r.drop i)
  | r, lo, 0, h => ⟨lo, h⟩
  | [], lo, i + 1, h => ⟨lo, trivial⟩
  | s :: r, lo, i + 1, ⟨h1, h2, h3⟩ => rows_drop i h3
/-- The loop over the rows. -/
theorem least_l1 (n : Int) (R : List S48) (hR : R.length ≤ 1025) (lo : Int) (hrows : Rows_ lo R) (x7 : Int) (x8 : Bool) (hsum : sumR R ≤ 2000)
    (hfin : ∀ k, R.length + 2 < k → ∀ z, z = (if x8 = true then sizeAt x7 R 0 else 0) → (if x8 = true then (if z < n then (joistlaw13_PagesLeast.j2 k n true R x7 x8 z true) else (if n < 1 then (joistlaw13_PagesLeast.j2 k n true R x7 x8 z true) else (joistlaw13_PagesLeast.j2 k n true R x7 x8 z false))) else (if x7 = 0 then (joistlaw13_PagesLeast.j2 k n true R x7 x8 z false) else (joistlaw13_PagesLeast.j2 k n true R x7 x8 z true))) = some true) :
    ∀ (d k i : Nat) (z : Int), i + d = R.length → d + R.length + 3 < k → (if x8 = true then sizeAt x7 (R.drop i) z else z) = (if x8 = true then sizeAt x7 R 0 else 0) →
      joistlaw13_PagesLeast.l1 k n true R x7 x8 (sumR (R.drop i)) z i = some true := by
  intro d
  induction d with
  | zero =>
    intro k i z hi hk hz
    obtain ⟨k, rfl⟩ : ∃ m, k = m + 1 := ⟨k - 1, by omega⟩
    rw [List.drop_of_length_le (by omega)] at hz ⊢
    simp only [joistlaw13_PagesLeast.l1]
    rw [if_neg (by omega)]
    have e : (sumR [] != 0) = false := rfl
    rw [e]
    refine hfin k (by omega) z ?_
    rw [← hz]
    cases x8 <;> rfl
  | succ d ih =>
    intro k i z hi hk hz
    obtain ⟨k, rfl⟩ : ∃ m, k = m + 1 := ⟨k - 1, by omega⟩
    have hlt : i < R.length := by omega
    obtain ⟨lo1, hr1⟩ := rows_drop i hrows
    have hs0 := sumR_nonneg hr1
    have hsz : sumR (R.drop i) ≤ sumR R := by
      have h1 := sumR_append (R.take i) (R.drop i)
      rw [List.take_append_drop] at h1
      have : ∀ {r : List S48} {lo : Int} (j : Nat), Rows_ lo r → 0 ≤ sumR (r.take j) := by
        intro r
        induction r with
        | nil => intro lo j _; rw [List.take_nil]; exact Int.le_refl _
        | cons s r ih2 =>
          intro lo j ⟨h1, h2, h3⟩
          cases j with
          | zero => exact Int.le_refl _
          | succ j => have := ih2 j h3; show 0 ≤ s.f1 + sumR (r.take j); omega
      have := this i hrows
      omega
    have hd := sumR_drop hlt
    have hr2 := hr1
    rw [drop_rd hlt] at hr2 hz
    obtain ⟨g1, g2, g3⟩ := hr2
    have hs1 := sumR_nonneg g3
    simp only [joistlaw13_PagesLeast.l1]
    rw [if_pos (by omega), if_pos (by omega), wrap_in (n := (i : Int) + 1) (by omega) (by omega), show ((i : Int) + 1) = ((i + 1 : Nat) : Int) by omega, wrap_in (n := sumR (R.drop i) - (rd_T48 R i).f1) (by omega) (by omega), show sumR (R.drop i) - (rd_T48 R i).f1 = sumR (R.drop (i + 1)) by omega]
    have hn := fun z hz => ih k (i + 1) z (by omega) (by omega) hz
    cases x8 with
    | false =>
      rw [if_neg (by decide)]
      exact hn z hz
    | true =>
      rw [if_pos rfl]
      simp only [if_true, sizeAt] at hz hn
      by_cases h : (rd_T48 R i).f0 = x7
      · rw [if_pos h] at hz ⊢
        exact hn _ hz
      · rw [if_neg h] at hz ⊢
        exact hn _ hz
theorem least_l0 (l : List Int) (hl : l.length ≤ 1024) (n : Int) (R : List S48) (x7 : Int) (x8 : Bool) (r : Option Bool) (h : ∀ k, 2 * l.length + 10 < k → joistlaw13_PagesLeast.l1 k n true R x7 x8 (countF l : Int) 0 0 = r) :
    ∀ (d k i : Nat) (c : Nat), i + d = l.length → d + 2 * l.length + 11 < k → c ≤ i → c + countF (l.drop i) = countF l → joistlaw13_PagesLeast.l0 k l n true R x7 x8 (c : Int) i = r := by
  intro d
  induction d with
  | zero =>
    intro k i c hi hk hc hcc
    obtain ⟨k, rfl⟩ : ∃ m, k = m + 1 := ⟨k - 1, by omega⟩
    rw [List.drop_of_length_le (by omega)] at hcc
    simp only [joistlaw13_PagesLeast.l0]
    rw [if_neg (by omega)]
    have e : c = countF l := by simpa [countF] using hcc
    rw [e]
    exact h k (by omega)
  | succ d ih =>
    intro k i c hi hk hc hcc
    obtain ⟨k, rfl⟩ : ∃ m, k = m + 1 := ⟨k - 1, by omega⟩
    have hlt : i < l.length := by omega
    rw [rd_drop' hlt] at hcc
    simp only [countF] at hcc
    simp only [joistlaw13_PagesLeast.l0]
    rw [if_pos (by omega), if_pos (by omega), wrap_in (n := (i : Int) + 1) (by omega) (by omega), wrap_in (n := (c : Int) + 1) (by omega) (by omega), show ((i : Int) + 1) = ((i + 1 : Nat) : Int) by omega]
    by_cases hk1 : rd l (i : Int) = -1
    · rw [if_pos hk1] at hcc ⊢
      exact ih k (i + 1) (c + 1) (by omega) (by omega) (by omega) (by omega)
    · rw [if_neg hk1] at hcc ⊢
      exact ih k (i + 1) c (by omega) (by omega) (by omega) (by omega)
theorem PagesLeast : joistlaw13_PagesLeast.Pure := by
  intro l0 n w0 w1 w2 w3
  obtain ⟨K, hK⟩ : ∃ K : Nat, K = 10000 := ⟨_, rfl⟩
  refine ⟨K, ?_⟩
  unfold joistlaw13_PagesLeast.f
  rw [small_at (by omega)]
  simp only [Option.bind_some]
  by_cases hl : (l0.length : Int) > 1024
  · rw [if_pos hl]
  · rw [if_neg hl]
    have hl' : l0.length ≤ 1024 := by omega
    rw [best_is l0 n hl' K (by omega), runs_is l0 hl']
    simp only [Option.bind_some]
    have hlen := specR_length l0 0 0
    have hsum := specR_sum l0 0 0
    have hcl := countF_le l0
    have hrows : Rows_ 0 (specR 0 l0 0) := (specR_rows l0 0 0 (Nat.le_refl _)).weaken (by omega)
    have hbest := best_of n (specR 0 l0 0) 0 none hrows (fun c hc => by cases hc)
    generalize specR 0 l0 0 = R at hlen hsum hrows hbest ⊢
    refine least_l0 l0 hl' n R _ _ _ (fun k hk => ?_) l0.length K 0 0 (by omega) (by omega) (Nat.le_refl _) (by rw [List.drop_zero, Nat.zero_add])
    rw [show (countF l0 : Int) = sumR (R.drop 0) by rw [List.drop_zero, hsum]; simp]
    refine least_l1 n R (by omega) 0 hrows _ _ (by omega) (fun k2 hk2 z hz => ?_) R.length k 0 0 (by omega) (by omega) rfl
    cases hb : R.foldl (bstep n) none with
    | none =>
      rw [hb] at hbest hz
      simp only [bout, Bool.false_eq_true, if_false] at hz ⊢
      rw [if_pos trivial]
      obtain ⟨k2, rfl⟩ : ∃ m, k2 = m + 1 := ⟨k2 - 1, by omega⟩
      simp only [joistlaw13_PagesLeast.j2, Bool.false_eq_true, if_false]
      exact least_l2 n R (by omega) 0 z false (fun s hs h1 h2 => absurd ⟨h1, h2⟩ (hbest.2 s hs)) R.length k2 0 (by omega) (by omega)
    | some s =>
      rw [hb] at hbest hz
      obtain ⟨h1, h2, h3, h4, h5⟩ := hbest
      have hs : s ∈ R := by rcases h1 with h1 | h1; cases h1; exact h1
      simp only [bout, if_true] at hz ⊢
      rw [sizeAt_is hrows hs rfl] at hz
      subst hz
      rw [if_neg (by omega), if_neg (by omega)]
      obtain ⟨k2, rfl⟩ : ∃ m, k2 = m + 1 := ⟨k2 - 1, by omega⟩
      simp only [joistlaw13_PagesLeast.j2, Bool.false_eq_true, if_false]
      exact least_l2 n R (by omega) s.f0 s.f1 true (fun x hx h6 h7 => ⟨rfl, h4 x hx h7⟩) R.length k2 0 (by omega) (by omega)
end Go.Proofs.Ytlpkbekpdhaplaa.Pure
