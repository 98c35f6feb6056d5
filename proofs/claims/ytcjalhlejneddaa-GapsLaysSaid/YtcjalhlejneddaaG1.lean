/- The best span of a row, as the program and the document compute it; the small case. -/
import Derived.Test.YtcjalhlejneddaaP4
import Derived.Test.YtcjalhlejneddaaOpenT
import Derived.OpenShut
namespace Go.Proofs.Ytcjalhlejneddaa.Pure
open Go.RowKit Go.Proofs.Ytcjalhlejneddaa.P Go.Proofs.Ytcjalhlejneddaa.Open Go.Proofs.YtcjalhlejneddaaW.PrintWords Go.Proofs.YtcjalhlejneddaaW.PrintLast
set_option linter.unusedSimpArgs false

theorem wrap_in {n : Int} (h0 : -9223372036854775808 ≤ n) (h1 : n ≤ 9223372036854775807) : wrap64 n = n := by unfold wrap64; omega
theorem small5 : joistlaw10_small.f 5 = some true := by decide +kernel
theorem small_at {k : Nat} (h : 5 ≤ k) : joistlaw10_small.f k = some true := at_rounds joistlaw10_small.mono h small5

def better (a b : S25) : Prop := a.f1 < b.f1 ∨ a.f1 = b.f1 ∧ a.f0 < b.f0
instance (a b : S25) : Decidable (better a b) := by unfold better; infer_instance
def bstep (size : Int) (cur : Option S25) (s : S25) : Option S25 :=
  match cur with
  | none => if s.f1 ≥ size then some s else none
  | some c => if s.f1 ≥ size ∧ better s c then some s else some c
def bout : Option S25 → Int × Int × Bool
  | none => (0, 0, false)
  | some s => (s.f0, s.f1, true)
theorem drop_rd {l : List S25} {i : Nat} (h : i < l.length) : l.drop i = rd_T25 l i :: l.drop (i + 1) := gaps_drop h
theorem better_f (a b : S25) : gaps_better.f a.f0 a.f1 b.f0 b.f1 = some (decide (better a b)) := by
  by_cases hb : better a b
  · rw [decide_eq_true hb]
    unfold better at hb
    unfold gaps_better.f
    by_cases h1 : a.f1 < b.f1
    · rw [if_pos h1]
    · rw [if_neg h1, if_pos (by omega), decide_eq_true (by omega)]
  · rw [decide_eq_false hb]
    unfold better at hb
    unfold gaps_better.f
    rw [if_neg (by omega)]
    split
    · rw [decide_eq_false (by omega)]
    · rfl
theorem Best_from (l : List S25) (size : Int) (hl : l.length ≤ 140737488351232) : ∀ (d k i : Nat) (cur : Option S25), i + d = l.length → d < k →
    gaps_Best.l0 k size cur.isSome l (l.length : Int) i (bout cur).1 (bout cur).2.1 = some (bout ((l.drop i).foldl (bstep size) cur)) := by
  intro d
  induction d with
  | zero =>
    intro k i cur hi hk
    obtain ⟨k, rfl⟩ : ∃ m, k = m + 1 := ⟨k - 1, by omega⟩
    simp only [gaps_Best.l0]
    rw [if_neg (by omega), List.drop_of_length_le (by omega)]
    cases cur <;> rfl
  | succ d ih =>
    intro k i cur hi hk
    obtain ⟨k, rfl⟩ : ∃ m, k = m + 1 := ⟨k - 1, by omega⟩
    have hlt : i < l.length := by omega
    rw [drop_rd hlt, List.foldl_cons]
    have hn := fun c => ih k (i + 1) c (by omega) (by omega)
    simp only [gaps_Best.l0]
    rw [if_pos (by omega), if_pos (by omega), if_pos (by omega), wrap_in (n := (i : Int) + 1) (by omega) (by omega)]
    have e1 : ((i : Int) + 1) = ((i + 1 : Nat) : Int) := by omega
    rw [e1]
    by_cases hs : (rd_T25 l i).f1 ≥ size
    · rw [if_pos hs]
      cases cur with
      | none =>
        simp only [Option.isSome_none, Bool.false_eq_true, if_false]
        have := hn (some (rd_T25 l i))
        simp only [bstep, if_pos hs]
        exact this
      | some c =>
        simp only [Option.isSome_some, if_true]
        rw [show (bout (some c)).1 = c.f0 from rfl, show (bout (some c)).2.1 = c.f1 from rfl, better_f]
        simp only [Option.bind_some, bstep]
        by_cases hb : better (rd_T25 l i) c
        · rw [decide_eq_true hb, if_pos rfl, if_pos ⟨hs, hb⟩]
          exact hn (some (rd_T25 l i))
        · rw [decide_eq_false hb, if_neg (by decide), if_neg (fun z => hb z.2)]
          exact hn (some c)
    · rw [if_neg hs]
      have e2 : bstep size cur (rd_T25 l i) = cur := by
        cases cur with
        | none => simp only [bstep, if_neg hs]
        | some c => simp only [bstep]; rw [if_neg (fun z => hs z.1)]
      rw [e2]
      exact hn cur
theorem Best_is (l : List S25) (size : Int) (hl : l.length ≤ 140737488351232) (k : Nat) (hk : l.length < k) : gaps_Best.f k l size = some (bout (l.foldl (bstep size) none)) :=
  Best_from l size hl l.length k 0 none (by omega) hk
/-- The document's: by the place of the best one so far, -1 if there is none. -/
theorem refBest_from (l : List S25) (size : Int) (hl : l.length ≤ 140737488351232) : ∀ (d k i : Nat) (cur : Option S25) (x6 : Int), i + d = l.length → d < k → (match cur with | none => x6 < 0 | some c => 0 ≤ x6 ∧ x6 < l.length ∧ rd_T25 l x6 = c) →
    joistref10_Best.l0 k l size x6 i = some (bout ((l.drop i).foldl (bstep size) cur)) := by
  intro d
  induction d with
  | zero =>
    intro k i cur x6 hi hk hc
    obtain ⟨k, rfl⟩ : ∃ m, k = m + 1 := ⟨k - 1, by omega⟩
    simp only [joistref10_Best.l0]
    rw [if_neg (by omega), List.drop_of_length_le (by omega)]
    cases cur with
    | none => rw [if_pos hc]; rfl
    | some c =>
      obtain ⟨h0, h1, rfl⟩ := hc
      rw [if_neg (by omega), if_pos h0, if_pos h1]
      rfl
  | succ d ih =>
    intro k i cur x6 hi hk hc
    obtain ⟨k, rfl⟩ : ∃ m, k = m + 1 := ⟨k - 1, by omega⟩
    have hlt : i < l.length := by omega
    rw [drop_rd hlt, List.foldl_cons]
    simp only [joistref10_Best.l0]
    rw [if_pos (by omega), if_pos (by omega), wrap_in (n := (i : Int) + 1) (by omega) (by omega)]
    have e1 : ((i : Int) + 1) = ((i + 1 : Nat) : Int) := by omega
    rw [e1]
    have hnew : joistref10_Best.l0 k l size (i : Int) ((i + 1 : Nat) : Int) = some (bout ((l.drop (i + 1)).foldl (bstep size) (some (rd_T25 l i)))) := ih k (i + 1) (some (rd_T25 l i)) i (by omega) (by omega) ⟨by omega, by omega, rfl⟩
    have hold := ih k (i + 1) cur x6 (by omega) (by omega) hc
    by_cases hs : (rd_T25 l i).f1 < size
    · rw [if_pos hs, hold]
      congr 2
      cases cur with
      | none => simp only [bstep]; rw [if_neg (by omega)]
      | some c => simp only [bstep]; rw [if_neg (fun z => absurd z.1 (by omega))]
    · rw [if_neg hs]
      cases cur with
      | none =>
        simp only at hc
        rw [if_pos hc, hnew]
        simp only [bstep]; rw [if_pos (by omega)]
      | some c =>
        obtain ⟨h0, h1, h2⟩ := hc
        rw [if_neg (by omega), if_pos h0, if_pos h1, h2]
        simp only [bstep]
        by_cases hb : better (rd_T25 l i) c
        · rw [if_pos (show (rd_T25 l i).f1 ≥ size ∧ better (rd_T25 l i) c from ⟨by omega, hb⟩)]
          rw [hnew]
          unfold better at hb
          split
          · rfl
          · rw [if_pos (by omega), if_pos (by omega)]
        · rw [if_neg (show ¬ ((rd_T25 l i).f1 ≥ size ∧ better (rd_T25 l i) c) from fun z => hb z.2)]
          rw [hold]
          unfold better at hb
          rw [if_neg (by omega)]
          split
          · rw [if_neg (by omega)]
          · rfl
theorem refBest_is (l : List S25) (size : Int) (hl : l.length ≤ 140737488351232) (k : Nat) (hk : l.length < k) : joistref10_Best.f k l size = some (bout (l.foldl (bstep size) none)) :=
  refBest_from l size hl l.length k 0 none (-1) (by omega) hk (show (-1 : Int) < 0 by omega)
/-- What the best one is: a fact of the fold. -/
def BestOf (size : Int) (l : List S25) (cur r : Option S25) : Prop :=
  match r with
  | none => cur = none ∧ ∀ x ∈ l, ¬ x.f1 ≥ size
  | some s => (cur = some s ∨ s ∈ l ∧ s.f1 ≥ size) ∧ (∀ x ∈ l, x.f1 ≥ size → ¬ better x s) ∧ ∀ c, cur = some c → ¬ better c s
theorem better_trans {a b c : S25} (h : better a b) (h2 : better b c) : better a c := by unfold better at *; omega
theorem better_irrefl (a : S25) : ¬ better a a := by unfold better; omega
theorem better_not {a b c : S25} (h : ¬ better b a) (h2 : ¬ better c b) : ¬ better c a := by unfold better at *; omega
theorem best_of (size : Int) : ∀ (l : List S25) (cur : Option S25), BestOf size l cur (l.foldl (bstep size) cur) := by
  intro l
  induction l with
  | nil =>
    intro cur
    cases cur with
    | none => exact ⟨rfl, by simp⟩
    | some c => exact ⟨.inl rfl, by simp, fun d hd => by obtain rfl := Option.some.inj hd; exact better_irrefl _⟩
  | cons s l ih =>
    intro cur
    rw [List.foldl_cons]
    have h := ih (bstep size cur s)
    generalize l.foldl (bstep size) (bstep size cur s) = r at h ⊢
    cases r with
    | none =>
      obtain ⟨h1, h2⟩ := h
      cases cur with
      | none =>
        simp only [bstep] at h1
        by_cases hs : s.f1 ≥ size
        · rw [if_pos hs] at h1; cases h1
        · exact ⟨rfl, fun x hx => by rcases List.mem_cons.1 hx with rfl | hx; exact hs; exact h2 x hx⟩
      | some c => simp only [bstep] at h1; split at h1 <;> cases h1
    | some t =>
      obtain ⟨h1, h2, h3⟩ := h
      cases cur with
      | none =>
        simp only [bstep] at h1 h3
        by_cases hs : s.f1 ≥ size
        · rw [if_pos hs] at h1 h3
          refine ⟨.inr ?_, fun x hx hxs => ?_, fun c hc => by cases hc⟩
          · rcases h1 with h1 | ⟨h1, h4⟩
            · obtain rfl := Option.some.inj h1
              exact ⟨List.mem_cons_self, hs⟩
            · exact ⟨List.mem_cons_of_mem _ h1, h4⟩
          · rcases List.mem_cons.1 hx with rfl | hx
            · exact h3 _ rfl
            · exact h2 x hx hxs
        · rw [if_neg hs] at h1 h3
          refine ⟨.inr ?_, fun x hx hxs => ?_, fun c hc => by cases hc⟩
          · rcases h1 with h1 | ⟨h1, h4⟩
            · cases h1
            · exact ⟨List.mem_cons_of_mem _ h1, h4⟩
          · rcases List.mem_cons.1 hx with rfl | hx
            · exact absurd hxs hs
            · exact h2 x hx hxs
      | some c =>
        simp only [bstep] at h1 h3
        by_cases hs : s.f1 ≥ size ∧ better s c
        · rw [if_pos hs] at h1 h3
          refine ⟨.inr ?_, fun x hx hxs => ?_, fun d hd => ?_⟩
          · rcases h1 with h1 | ⟨h1, h4⟩
            · obtain rfl := Option.some.inj h1
              exact ⟨List.mem_cons_self, hs.1⟩
            · exact ⟨List.mem_cons_of_mem _ h1, h4⟩
          · rcases List.mem_cons.1 hx with rfl | hx
            · exact h3 _ rfl
            · exact h2 x hx hxs
          · obtain rfl := Option.some.inj hd
            intro hb
            exact h3 s rfl (better_trans hs.2 hb)
        · rw [if_neg hs] at h1 h3
          refine ⟨?_, fun x hx hxs => ?_, h3⟩
          · rcases h1 with h1 | ⟨h1, h4⟩
            · exact .inl h1
            · exact .inr ⟨List.mem_cons_of_mem _ h1, h4⟩
          · rcases List.mem_cons.1 hx with rfl | hx
            · intro hb
              exact better_not (h3 c rfl) (fun z => hs ⟨hxs, z⟩) hb
            · exact h2 x hx hxs
end Go.Proofs.Ytcjalhlejneddaa.Pure
