/- The span that fits best is one of them, and none that has as many words is smaller, or alike with a lesser place: for any spans and any size. -/
import Derived.Test.YtcjalhlejneddaaG1
import Derived.Test.YtcjalhlejneddaaP5
namespace Go.Proofs.Ytcjalhlejneddaa.Pure
open Go.RowKit Go.Proofs.Ytcjalhlejneddaa.P Go.Proofs.Ytcjalhlejneddaa.Open Go.Proofs.YtcjalhlejneddaaW.PrintWords Go.Proofs.YtcjalhlejneddaaW.PrintLast
set_option linter.unusedVariables false

/-- What the best one is: a fact of the fold. -/
def BestOf (size : Int) (l : List S25) (cur r : Option S25) : Prop :=
  match r with
  | none => cur = none ∧ ∀ x ∈ l, ¬ x.f1 ≥ size
  | some s => (cur = some s ∨ s ∈ l ∧ s.f1 ≥ size) ∧ (∀ x ∈ l, x.f1 ≥ size → ¬ better x s) ∧ ∀ c, cur = some c → ¬ better c s
theorem better_trans {a b c : S25} (h : better a b) (h2 : better b c) : better a c := by unfold better at *; omega
theorem better_irrefl (a : S25) : ¬ better a a := by unfold better; omega
theorem better_not {a b c : S25} (h : ¬ better b a) (h2 : ¬ better c b) : ¬ better c a := by unfold better at *; omega
theorem best_of (size : Int) : ∀ (l : List S25) (cur : Option S25), BestOf size l cur (l.foldl (bstep size) cur) := by
  intro l
  induction l with
  | nil =>
    intro cur
    cases cur with
    | none => exact ⟨rfl, by simp⟩
    | some c => exact ⟨.inl rfl, by simp, fun d hd => by obtain rfl := Option.some.inj hd; exact better_irrefl _⟩
  | cons s l ih =>
    intro cur
    rw [List.foldl_cons]
    have h := ih (bstep size cur s)
    generalize l.foldl (bstep size) (bstep size cur s) = r at h ⊢
    cases r with
    | none =>
      obtain ⟨h1, h2⟩ := h
      cases cur with
      | none =>
        simp only [bstep] at h1
        by_cases hs : s.f1 ≥ size
        · rw [if_pos hs] at h1; cases h1
        · exact ⟨rfl, fun x hx => by rcases List.mem_cons.1 hx with rfl | hx; exact hs; exact h2 x hx⟩
      | some c => simp only [bstep] at h1; split at h1 <;> cases h1
    | some t =>
      obtain ⟨h1, h2, h3⟩ := h
      cases cur with
      | none =>
        simp only [bstep] at h1 h3
        by_cases hs : s.f1 ≥ size
        · rw [if_pos hs] at h1 h3
          refine ⟨.inr ?_, fun x hx hxs => ?_, fun c hc => by cases hc⟩
          · rcases h1 with h1 | ⟨h1, h4⟩
            · obtain rfl := Option.some.inj h1
              exact ⟨List.mem_cons_self, hs⟩
            · exact ⟨List.mem_cons_of_mem _ h1, h4⟩
          · rcases List.mem_cons.1 hx with rfl | hx
            · exact h3 _ rfl
            · exact h2 x hx hxs
        · rw [if_neg hs] at h1 h3
          refine ⟨.inr ?_, fun x hx hxs => ?_, fun c hc => by cases hc⟩
          · rcases h1 with h1 | ⟨h1, h4⟩
            · cases h1
            · exact ⟨List.mem_cons_of_mem _ h1, h4⟩
          · rcases List.mem_cons.1 hx with rfl | hx
            · exact absurd hxs hs
            · exact h2 x hx hxs
      | some c =>
        simp only [bstep] at h1 h3
        by_cases hs : s.f1 ≥ size ∧ better s c
        · rw [if_pos hs] at h1 h3
          refine ⟨.inr ?_, fun x hx hxs => ?_, fun d hd => ?_⟩
          · rcases h1 with h1 | ⟨h1, h4⟩
            · obtain rfl := Option.some.inj h1
              exact ⟨List.mem_cons_self, hs.1⟩
            · exact ⟨List.mem_cons_of_mem _ h1, h4⟩
          · rcases List.mem_cons.1 hx with rfl | hx
            · exact h3 _ rfl
            · exact h2 x hx hxs
          · obtain rfl := Option.some.inj hd
            intro hb
            exact h3 s rfl (better_trans hs.2 hb)
        · rw [if_neg hs] at h1 h3
          refine ⟨?_, fun x hx hxs => ?_, h3⟩
          · rcases h1 with h1 | ⟨h1, h4⟩
            · exact .inl h1
            · exact .inr ⟨List.mem_cons_of_mem _ h1, h4⟩
          · rcases List.mem_cons.1 hx with rfl | hx
            · intro hb
              exact better_not (h3 c rfl) (fun z => hs ⟨hxs, z⟩) hb
            · exact h2 x hx hxs
def same (a b : S25) : Bool := a.f0 == b.f0 && (a.f1 == b.f1)
theorem Least_from (l : List S25) (size : Int) (hl : l.length ≤ 140737488351232) (r : Option S25) (hr : BestOf size l none r) : ∀ (d k i : Nat) (found : Bool), i + d = l.length → d < k → (∀ s, r = some s → found = true ∨ s ∈ l.drop i) →
    joistlaw10_GapsLeast.l0 k l size true r.isSome found i (bout r).1 (bout r).2.1 = some true := by
  intro d
  induction d with
  | zero =>
    intro k i found hi hk hf
    obtain ⟨k, rfl⟩ : ∃ m, k = m + 1 := ⟨k - 1, by omega⟩
    simp only [joistlaw10_GapsLeast.l0]
    rw [if_neg (by omega)]
    simp only [if_true]
    cases r with
    | none => rfl
    | some s =>
      have hft : found = true := by
        rcases hf s rfl with h | h
        · exact h
        · rw [List.drop_of_length_le (by omega)] at h; simp at h
      subst hft
      obtain ⟨h1, _⟩ := hr
      simp only [Option.isSome_some, if_true]
      rcases h1 with h1 | ⟨_, h1⟩
      · cases h1
      · rw [show (bout (some s)).2.1 = s.f1 from rfl, if_pos h1]
  | succ d ih =>
    intro k i found hi hk hf
    obtain ⟨k, rfl⟩ : ∃ m, k = m + 1 := ⟨k - 1, by omega⟩
    have hlt : i < l.length := by omega
    have hmem : rd_T25 l i ∈ l := by
      have := drop_rd hlt
      exact List.mem_of_mem_drop (this ▸ List.mem_cons_self)
    have e1 : ((i : Int) + 1) = ((i + 1 : Nat) : Int) := by omega
    have hnx : ∀ f2, (∀ s, r = some s → f2 = true ∨ s ∈ l.drop (i + 1)) → joistlaw10_GapsLeast.l0 k l size true r.isSome f2 ((i + 1 : Nat) : Int) (bout r).1 (bout r).2.1 = some true := fun f2 h2 => ih k (i + 1) f2 (by omega) (by omega) h2
    have hsame : ∀ s, r = some s → (found = true ∨ same (rd_T25 l i) s = true) ∨ s ∈ l.drop (i + 1) := by
      intro s hs
      rcases hf s hs with h | h
      · exact .inl (.inl h)
      · rw [drop_rd hlt] at h
        rcases List.mem_cons.1 h with h | h
        · subst h
          exact .inl (.inr (by unfold same; simp))
        · exact .inr h
    simp only [joistlaw10_GapsLeast.l0]
    rw [if_pos (by omega), wrap_in (n := (i : Int) + 1) (by omega) (by omega), e1]
    cases r with
    | none =>
      obtain ⟨_, h2⟩ := hr
      have hno := h2 _ hmem
      by_cases hft : found = true
      · rw [if_pos hft, if_pos (by omega), if_neg hno]
        exact hnx true (fun s hs => by cases hs)
      · rw [if_neg hft, if_pos (by omega), if_neg hno]
        exact hnx _ (fun s hs => by cases hs)
    | some s =>
      obtain ⟨_, h2, _⟩ := hr
      have hb := h2 _ hmem
      have hsa := hsame s rfl
      simp only [Option.isSome_some, if_true] at hnx ⊢
      rw [show (bout (some s)).1 = s.f0 from rfl, show (bout (some s)).2.1 = s.f1 from rfl] at hnx ⊢
      unfold better at hb
      by_cases hft : found = true
      · subst hft
        have hN := hnx true (fun _ _ => .inl rfl)
        rw [if_pos rfl, if_pos (by omega)]
        by_cases hs : (rd_T25 l i).f1 ≥ size
        · have hb := hb hs
          rw [if_pos hs, if_neg (by omega)]
          by_cases h3 : (rd_T25 l i).f1 = s.f1
          · rw [if_pos h3, if_neg (by omega)]; exact hN
          · rw [if_neg h3]; exact hN
        · rw [if_neg hs]; exact hN
      · have hN := hnx (same (rd_T25 l i) s) (fun t ht => by
          obtain rfl := Option.some.inj ht
          rcases hsa with (h | h) | h
          · exact absurd h hft
          · exact .inl h
          · exact .inr h)
        unfold same at hN
        rw [if_neg hft, if_pos (by omega)]
        by_cases hs : (rd_T25 l i).f1 ≥ size
        · have hb := hb hs
          rw [if_pos hs, if_neg (by omega)]
          by_cases h3 : (rd_T25 l i).f1 = s.f1
          · rw [if_pos h3, if_neg (by omega)]; exact hN
          · rw [if_neg h3]; exact hN
        · rw [if_neg hs]; exact hN
theorem GapsLeast (l0 : List (S25)) (a1 : Int) (w0 : (l0.length ≤ maxLen ∧ l0.length * 16 ≤ 140737488351232 ∧ ∀ x ∈ l0, ok25 x)) (w1 : (Lit.int .i64 a1).wf = true) : ∃ k, joistlaw10_GapsLeast.f k l0 a1 = some true := by
  refine ⟨l0.length + 5, ?_⟩
  unfold joistlaw10_GapsLeast.f
  rw [small_at (by omega), Best_is l0 a1 (by omega) _ (by omega)]
  simp only [Option.bind_some]
  have h := best_of a1 l0 none
  generalize l0.foldl (bstep a1) none = r at h ⊢
  have := Least_from l0 a1 (by omega) r h l0.length (l0.length + 5) 0 false (by omega) (by omega) (fun s hs => by
    subst hs
    obtain ⟨h1, _⟩ := h
    rcases h1 with h1 | h1
    · cases h1
    · exact .inr h1.1)
  cases r <;> exact this

end Go.Proofs.Ytcjalhlejneddaa.Pure
