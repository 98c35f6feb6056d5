/- Where a further object goes, and that it can be laid there. -/
import Derived.Test.YtlpkbekpdhaplaaX1
import Derived.Test.YtlpkbekpdhaplaaEm
namespace Go.Proofs.Ytlpkbekpdhaplaa.Pure
open Go.RowKit Go.Proofs.Ytlpkbekpdhaplaa.P Go.Proofs.Ytlpkbekpdhaplaa.Open Go.Proofs.YtlpkbekpdhaplaaW.PrintWords Go.Proofs.YtlpkbekpdhaplaaW.PrintLast
set_option linter.unusedSimpArgs false
set_option linter.unusedVariables false

theorem wf_bounds {n : Int} (h : (Lit.int .i64 n).wf = true) : -9223372036854775808 ≤ n ∧ n ≤ 9223372036854775807 := bounds_i64 h
theorem okL_of {l : List S44} (h : ∀ x ∈ l, ok44 x) (hl : l.length ≤ 8796093022208) : okL l = true := by
  unfold okL
  rw [Bool.and_eq_true, List.all_eq_true]
  refine ⟨decide_eq_true hl, fun o ho => ?_⟩
  have := wf_bounds (h o ho).1
  simp only [Bool.and_eq_true, decide_eq_true_eq]
  exact this
theorem kinds_is {n : Int} {l : List S44} (h : okL l = true) : pages_Kinds.f n l = some (match laid n l with | some st => (st.1, true) | none => ([], false)) := by
  unfold pages_Kinds.f; rw [if_pos h]; cases laid n l <;> rfl
theorem mates_is {n page : Int} {l : List S44} (h : okL l = true) (hp : page ≤ 9223372036854775807) : pages_Mates.f n l page = some (match laid n l with | some _ => matesOf n page 0 l | none => []) := by
  unfold pages_Mates.f; rw [if_pos ⟨h, hp⟩]; cases laid n l <;> rfl
theorem laid_snoc (n : Int) (l : List S44) (o : S44) : laid n (l ++ [o]) = (laid n l).bind fun st => if (spotv n o.f0 o.f1).2.2.2.2.2 = true then layOf (spotv n o.f0 o.f1) st.1 st.2 else none := by
  unfold laid
  split
  · rw [layAll_append]
    cases layAll n l (List.replicate n.toNat (-1), List.replicate 64 0) with
    | none => rfl
    | some st =>
      simp only [Option.bind_some, layAll]
      split
      · cases layOf (spotv n o.f0 o.f1) st.1 st.2 <;> rfl
      · rfl
  · rfl
theorem layAll_length (n : Int) : ∀ (l : List S44) (st st' : List Int × List Nat), layAll n l st = some st' → st'.1.length = st.1.length ∧ st'.2.length = st.2.length
  | [], st, st', h => by obtain rfl := Option.some.inj h; exact ⟨rfl, rfl⟩
  | o :: l, st, st', h => by
    simp only [layAll] at h
    split at h
    · cases ho : layOf (spotv n o.f0 o.f1) st.1 st.2 with
      | none => rw [ho] at h; cases h
      | some s2 =>
        rw [ho] at h
        have h1 := layOf_length ho
        have h2 := layAll_length n l s2 st' h
        exact ⟨h2.1.trans h1.1, h2.2.trans h1.2⟩
    · cases h
theorem laid_length {n : Int} {l : List S44} {st : List Int × List Nat} (h : laid n l = some st) : 0 ≤ n ∧ n ≤ 64 ∧ st.1.length = n.toNat ∧ st.2.length = 64 := by
  unfold laid at h
  split at h
  · rename_i hn
    have := layAll_length n l _ _ h
    rw [List.length_replicate, List.length_replicate] at this
    exact ⟨hn.1, hn.2, this⟩
  · cases h
/-- Pages' number is small, whatever the length. -/
theorem pagesOf_is (len : Int) : class_Pages.f len = some (if 120 < len ∧ len ≤ 2048 then ((len + 255) / 256, 0) else (0, 1)) := by
  unfold class_Pages.f class_largest.f
  simp only [Option.bind_some]
  by_cases h : 120 < len ∧ len ≤ 2048
  · rw [if_neg (by omega), if_neg (by omega), if_pos h]
    rw [wrap_in (n := len + 256) (by omega) (by omega), wrap_in (n := len + 256 - 1) (by omega) (by omega), Int.tdiv_eq_ediv_of_nonneg (by omega), wrap_in (by omega) (by omega)]
    congr 3
    omega
  · rw [if_neg h]
    by_cases h2 : len ≤ 120
    · rw [if_pos h2]
    · rw [if_neg h2, if_pos (by omega)]
theorem wordsOf_cases {P : Int → Prop} (h : ∀ w, w = 2 ∨ w = 3 ∨ w = 5 ∨ w = 7 ∨ w = 10 ∨ w = 15 → P w) {c : Int} (h0 : 0 ≤ c) (h1 : c < 6) : P (wordsOf c) := by
  have : c = 0 ∨ c = 1 ∨ c = 2 ∨ c = 3 ∨ c = 4 ∨ c = 5 := by omega
  rcases this with rfl | rfl | rfl | rfl | rfl | rfl <;> exact h _ (by decide)
/-- The spot of a cell. -/
theorem spotv_cell (n size : Int) (p k : Nat) (hs : 1 ≤ size ∧ size ≤ 120) (hk : (k : Int) < 28 / wordsOf (class_of size)) :
    spotv n ((p : Int) * 32 + (4 + (k : Int) * wordsOf (class_of size))) size = ((p : Int), 1, true, class_of size, (k : Int), decide ((p : Int) < n)) := by
  have hc := class_of_in size
  unfold spotv
  generalize hcc : class_of size = c at hc hk ⊢
  revert hk
  refine wordsOf_cases (P := fun w => (k : Int) < 28 / w → (if (p : Int) * 32 + (4 + (k : Int) * w) < 0 then (0, 0, false, 0, 0, false) else if 1 ≤ size ∧ size ≤ 120 then (if 4 ≤ ((p : Int) * 32 + (4 + (k : Int) * w)) % 32 ∧ (((p : Int) * 32 + (4 + (k : Int) * w)) % 32 - 4) % w = 0 ∧ (((p : Int) * 32 + (4 + (k : Int) * w)) % 32 - 4) / w < 28 / w then (((p : Int) * 32 + (4 + (k : Int) * w)) / 32, 1, true, c, (((p : Int) * 32 + (4 + (k : Int) * w)) % 32 - 4) / w, decide (((p : Int) * 32 + (4 + (k : Int) * w)) / 32 < n)) else (((p : Int) * 32 + (4 + (k : Int) * w)) / 32, 1, true, c, 0, false)) else if 120 < size ∧ size ≤ 2048 then (((p : Int) * 32 + (4 + (k : Int) * w)) / 32, (size + 255) / 256, false, 0, 0, decide (((p : Int) * 32 + (4 + (k : Int) * w)) % 32 = 0 ∧ ((p : Int) * 32 + (4 + (k : Int) * w)) / 32 < n ∧ (size + 255) / 256 ≤ n - ((p : Int) * 32 + (4 + (k : Int) * w)) / 32)) else (((p : Int) * 32 + (4 + (k : Int) * w)) / 32, 0, false, 0, 0, false)) = ((p : Int), 1, true, c, (k : Int), decide ((p : Int) < n))) (fun w hw hk => ?_) hc.1 hc.2
  have key : 0 ≤ (k : Int) * w ∧ (k : Int) * w + w ≤ 28 := by
    rcases hw with rfl | rfl | rfl | rfl | rfl | rfl <;> omega
  have hw0 : 2 ≤ w := by omega
  have e1 : ((p : Int) * 32 + (4 + (k : Int) * w)) % 32 = 4 + (k : Int) * w := by omega
  have e2 : ((p : Int) * 32 + (4 + (k : Int) * w)) / 32 = p := by omega
  have e3 : 4 + (k : Int) * w - 4 = (k : Int) * w := by omega
  rw [e1, e2, e3, Int.mul_emod_left, Int.mul_ediv_cancel _ (by omega), if_neg (by omega), if_pos hs, if_pos ⟨by omega, rfl, hk⟩]
theorem spotv_long (n size : Int) (p : Nat) (hs : 120 < size ∧ size ≤ 2048) :
    spotv n ((p : Int) * 32) size = ((p : Int), (size + 255) / 256, false, 0, 0, decide (((p : Int) < n ∧ (size + 255) / 256 ≤ n - p))) := by
  unfold spotv
  rw [if_neg (by omega), if_neg (by omega), if_pos hs, show (p : Int) * 32 / 32 = p by omega, show (p : Int) * 32 % 32 = 0 by omega]
  simp
/-! ### Rows and free pages -/
theorem specR_mem : ∀ (r : List Int) (i c : Nat) (s : S48), c ≤ i → s ∈ specR i r c → ∃ q m : Nat, s = ⟨(q : Int), (m : Int)⟩ ∧ i - c ≤ q ∧ q + m ≤ i + r.length ∧ 1 ≤ m ∧ ∀ j, q ≤ j → j < q + m → i ≤ j → r.getD (j - i) 0 = -1 := by
  intro r
  induction r with
  | nil =>
    intro i c s hc hs
    simp only [specR] at hs
    split at hs
    · cases hs
    · obtain rfl := List.mem_singleton.1 hs
      exact ⟨i - c, c, by congr 1; omega, Nat.le_refl _, by simp; omega, by omega, fun j h1 h2 h3 => by omega⟩
  | cons k r ih =>
    intro i c s hc hs
    simp only [specR] at hs
    split at hs
    · rename_i hk
      obtain ⟨q, m, rfl, h1, h2, h3, h4⟩ := ih (i + 1) (c + 1) s (by omega) hs
      refine ⟨q, m, rfl, by omega, by rw [List.length_cons]; omega, h3, fun j g1 g2 g3 => ?_⟩
      by_cases e : j = i
      · rw [e, Nat.sub_self]; exact hk
      · rw [show j - i = (j - (i + 1)) + 1 by omega]
        exact h4 j g1 g2 (by omega)
    · rename_i hk
      rcases List.mem_append.1 hs with hs | hs
      · split at hs
        · cases hs
        · obtain rfl := List.mem_singleton.1 hs
          exact ⟨i - c, c, by congr 1; omega, Nat.le_refl _, by rw [List.length_cons]; omega, by omega, fun j g1 g2 g3 => by omega⟩
      · obtain ⟨q, m, rfl, h1, h2, h3, h4⟩ := ih (i + 1) 0 s (by omega) hs
        refine ⟨q, m, rfl, by omega, by rw [List.length_cons]; omega, h3, fun j g1 g2 g3 => ?_⟩
        rw [show j - i = (j - (i + 1)) + 1 by omega]
        exact h4 j g1 g2 (by omega)
/-- Free pages side by side lie in one row. -/
theorem specR_has : ∀ (r : List Int) (i c p m : Nat), 1 ≤ m → (∀ j, j < m → r.getD (p + j) 0 = -1) → p + m ≤ r.length → ∃ s ∈ specR i r c, (m : Int) + (if p = 0 then (c : Int) else 0) ≤ s.f1 := by
  intro r
  induction r with
  | nil => intro i c p m hm hf hp; simp only [List.length_nil] at hp; omega
  | cons k r ih =>
    intro i c p m hm hf hp
    rw [List.length_cons] at hp
    simp only [specR]
    cases p with
    | zero =>
      have hk : k = -1 := by have := hf 0 hm; rwa [Nat.zero_add] at this
      rw [if_pos hk, if_pos rfl]
      by_cases hm1 : m = 1
      · subst hm1
        -- the row goes on or ends
        have : ∀ (r : List Int) (i c : Nat), 1 ≤ c → ∃ s ∈ specR i r c, (c : Int) ≤ s.f1 := by
          intro r
          induction r with
          | nil => intro i c hc; simp only [specR]; rw [if_neg (by omega)]; exact ⟨_, List.mem_singleton.2 rfl, Int.le_refl _⟩
          | cons k r ih2 =>
            intro i c hc
            simp only [specR]
            split
            · obtain ⟨s, hs, h⟩ := ih2 (i + 1) (c + 1) (by omega)
              exact ⟨s, hs, by omega⟩
            · rw [if_neg (by omega)]
              exact ⟨_, List.mem_append_left _ (List.mem_singleton.2 rfl), Int.le_refl _⟩
        obtain ⟨s, hs, h⟩ := this r (i + 1) (c + 1) (by omega)
        exact ⟨s, hs, by omega⟩
      · obtain ⟨s, hs, h⟩ := ih (i + 1) (c + 1) 0 (m - 1) (by omega) (fun j hj => by have := hf (j + 1) (by omega); rwa [Nat.zero_add] at this ⊢) (by omega)
        rw [if_pos rfl] at h
        exact ⟨s, hs, by omega⟩
    | succ p =>
      have e0 : (if p + 1 = 0 then (c : Int) else 0) = 0 := if_neg (by omega)
      rw [e0]
      have hf' : ∀ j, j < m → r.getD (p + j) 0 = -1 := fun j hj => by have := hf j hj; rwa [Nat.add_right_comm] at this
      by_cases hk : k = -1
      · rw [if_pos hk]
        obtain ⟨s, hs, h⟩ := ih (i + 1) (c + 1) p m hm hf' (by omega)
        exact ⟨s, hs, by split at h <;> omega⟩
      · rw [if_neg hk]
        obtain ⟨s, hs, h⟩ := ih (i + 1) 0 p m hm hf' (by omega)
        exact ⟨s, List.mem_append_right _ hs, by split at h <;> omega⟩
theorem freeK_of {ks : List Int} {p : Nat} : ∀ {m : Nat}, (∀ j, j < m → ks.getD (p + j) 0 = -1) → freeK ks p m = true
  | 0, _ => rfl
  | m + 1, h => by simp only [freeK, freeK_of (m := m) (fun j hj => h j (by omega)), h m (by omega)]; rfl
/-! ### The first one -/
theorem first_some {β : Type} {f : Nat → Option β} : ∀ {d i : Nat} {b : β}, scanFrom f d i = some b → ∃ q, i ≤ q ∧ q < i + d ∧ f q = some b
  | 0, i, b, h => by cases h
  | d + 1, i, b, h => by
    simp only [scanFrom] at h
    cases hf : f i with
    | some b' => rw [hf] at h; simp only [Option.some.injEq] at h; subst h; exact ⟨i, Nat.le_refl _, by omega, hf⟩
    | none =>
      rw [hf] at h
      obtain ⟨q, h1, h2, h3⟩ := first_some h
      exact ⟨q, by omega, by omega, h3⟩
theorem first_has {β : Type} {f : Nat → Option β} : ∀ {d i q : Nat}, i ≤ q → q < i + d → (f q).isSome = true → (scanFrom f d i).isSome = true
  | 0, i, q, h1, h2, _ => by omega
  | d + 1, i, q, h1, h2, h3 => by
    simp only [scanFrom]
    cases hf : f i with
    | some b => rfl
    | none =>
      have : i ≠ q := fun e => by rw [e] at hf; rw [hf] at h3; cases h3
      exact first_has (d := d) (i := i + 1) (by omega) (by omega) h3
end Go.Proofs.Ytlpkbekpdhaplaa.Pure
