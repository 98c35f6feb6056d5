/- How the gaps lie between used blocks: plain facts on lists of spans. -/
import Derived.Test.YtcjalhlejneddaaG2
namespace Go.Proofs.Ytcjalhlejneddaa.Pure
open Go.RowKit Go.Proofs.Ytcjalhlejneddaa.P Go.Proofs.Ytcjalhlejneddaa.Open Go.Proofs.YtcjalhlejneddaaW.PrintWords Go.Proofs.YtcjalhlejneddaaW.PrintLast
set_option linter.unusedSimpArgs false
set_option linter.unusedVariables false

def gaps_run (tt : Int) : List S25 → Int → List S25 → Option (List S25 × Int)
  | acc, a, [] => some (acc, a)
  | acc, a, s :: r => if gaps_fits a tt s then gaps_run tt (gaps_push acc a s.f0) (s.f0 + s.f1) r else none
def nxt (tt : Int) : List S25 → Int
  | [] => tt
  | x :: _ => x.f0
theorem walk_append (tt : Int) : ∀ (l1 l2 acc : List S25) (a : Int), gaps_walk tt acc a (l1 ++ l2) = (gaps_run tt acc a l1).bind fun st => gaps_walk tt st.1 st.2 l2 := by
  intro l1
  induction l1 with
  | nil => intro l2 acc a; rfl
  | cons s l1 ih =>
    intro l2 acc a
    simp only [List.cons_append, gaps_walk, gaps_run]
    by_cases h : gaps_fits a tt s
    · rw [if_pos h, if_pos h]; exact ih _ _ _
    · rw [if_neg h, if_neg h]; rfl
theorem push_acc (acc b : List S25) (a e : Int) : gaps_push (acc ++ b) a e = acc ++ gaps_push b a e := by
  unfold gaps_push
  split <;> simp
theorem walk_acc (tt : Int) : ∀ (l acc b : List S25) (a : Int), gaps_walk tt (acc ++ b) a l = (gaps_walk tt b a l).map (acc ++ ·) := by
  intro l
  induction l with
  | nil => intro acc b a; simp only [gaps_walk, push_acc]; rfl
  | cons s l ih =>
    intro acc b a
    simp only [gaps_walk]
    by_cases h : gaps_fits a tt s
    · rw [if_pos h, if_pos h, push_acc, ih]
    · rw [if_neg h, if_neg h]; rfl
structure RunOf (tt : Int) (acc : List S25) (a : Int) (l acc' : List S25) (a' : Int) : Prop where
  le : a ≤ a'
  le2 : a' ≤ tt
  m4 : a' % 4 = 0
  gap : ∀ g ∈ acc', g ∈ acc ∨ a ≤ g.f0 ∧ g.f0 < a'
  blk : ∀ x ∈ l, a ≤ x.f0 ∧ x.f0 < a'
theorem push_mem {acc : List S25} {a e : Int} {g : S25} (h : g ∈ gaps_push acc a e) : g ∈ acc ∨ e > a ∧ g = ⟨a, e - a⟩ := by
  unfold gaps_push at h
  split at h
  · rename_i hp
    rcases List.mem_append.1 h with h | h
    · exact .inl h
    · exact .inr ⟨hp, List.mem_singleton.1 h⟩
  · exact .inl h
theorem run_of (tt : Int) : ∀ (l acc : List S25) (a : Int) (acc' : List S25) (a' : Int), gaps_run tt acc a l = some (acc', a') → a ≤ tt → a % 4 = 0 → RunOf tt acc a l acc' a' := by
  intro l
  induction l with
  | nil =>
    intro acc a acc' a' h ht h4
    simp only [gaps_run, Option.some.injEq, Prod.mk.injEq] at h
    obtain ⟨rfl, rfl⟩ := h
    exact ⟨Int.le_refl _, ht, h4, fun g hg => .inl hg, by simp⟩
  | cons s l ih =>
    intro acc a acc' a' h ht h4
    simp only [gaps_run] at h
    split at h
    · rename_i hf
      obtain ⟨f1, f2, f3, f4, f5, f6⟩ := hf
      obtain ⟨i1, i2, i3, i4, i5⟩ := ih _ _ _ _ h (by omega) (by omega)
      refine ⟨by omega, i2, i3, fun g hg => ?_, fun x hx => ?_⟩
      · rcases i4 g hg with h1 | h1
        · rcases push_mem h1 with h2 | ⟨h2, rfl⟩
          · exact .inl h2
          · exact .inr ⟨by simp, by simp; omega⟩
        · exact .inr ⟨by omega, h1.2⟩
      · rcases List.mem_cons.1 hx with rfl | hx
        · exact ⟨f1, by omega⟩
        · have := i5 x hx
          exact ⟨by omega, this.2⟩
    · cases h
/-- Each gap lies between two neighbours. -/
theorem walk_mem (tt : Int) : ∀ (l acc : List S25) (a : Int) (r : List S25) (s : S25), gaps_walk tt acc a l = some r → s ∈ r →
    s ∈ acc ∨ ∃ l1 l2 acc', l = l1 ++ l2 ∧ gaps_run tt acc a l1 = some (acc', s.f0) ∧ s.f1 = nxt tt l2 - s.f0 ∧ s.f0 < nxt tt l2 := by
  intro l
  induction l with
  | nil =>
    intro acc a r s h hs
    simp only [gaps_walk, Option.some.injEq] at h
    subst h
    rcases push_mem hs with h1 | ⟨h1, rfl⟩
    · exact .inl h1
    · exact .inr ⟨[], [], acc, rfl, rfl, rfl, h1⟩
  | cons x l ih =>
    intro acc a r s h hs
    simp only [gaps_walk] at h
    split at h
    · rename_i hf
      rcases ih _ _ _ _ h hs with h1 | ⟨l1, l2, acc', rfl, h2, h3, h4⟩
      · rcases push_mem h1 with h2 | ⟨h2, rfl⟩
        · exact .inl h2
        · exact .inr ⟨[], x :: l, acc, rfl, rfl, rfl, h2⟩
      · exact .inr ⟨x :: l1, l2, acc', rfl, by simp only [gaps_run]; rw [if_pos hf]; exact h2, h3, h4⟩
    · cases h
/-- Gaps behind a place lie behind it. -/
theorem walk_from (tt : Int) : ∀ (l acc : List S25) (a : Int) (r : List S25), gaps_walk tt acc a l = some r → a ≤ tt → ∀ g ∈ r, g ∈ acc ∨ a ≤ g.f0 := by
  intro l
  induction l with
  | nil =>
    intro acc a r h ht g hg
    simp only [gaps_walk, Option.some.injEq] at h
    subst h
    rcases push_mem hg with h1 | ⟨h1, rfl⟩
    · exact .inl h1
    · exact .inr (Int.le_refl _)
  | cons x l ih =>
    intro acc a r h ht g hg
    simp only [gaps_walk] at h
    split at h
    · rename_i hf
      obtain ⟨f1, f2, f3, f4, f5, f6⟩ := hf
      rcases ih _ _ _ h (by omega) g hg with h1 | h1
      · rcases push_mem h1 with h2 | ⟨h2, rfl⟩
        · exact .inl h2
        · exact .inr (Int.le_refl _)
      · exact .inr (by omega)
    · cases h
/-- What is free behind a block that is laid at a gap's beginning. -/
theorem laid_walk (tt : Int) (acc : List S25) (a sz : Int) (l2 r : List S25) (ht : tt % 4 = 0) (h4 : a % 4 = 0) (hs : 4 ≤ sz) (hs4 : sz % 4 = 0) (hle : sz ≤ nxt tt l2 - a) (ha : a < nxt tt l2) (h : gaps_walk tt acc a l2 = some r) (hat : a ≤ tt) :
    ∃ t, gaps_walk tt acc a (⟨a, sz⟩ :: l2) = some (acc ++ t) ∧
      (nxt tt l2 - a > sz ∧ (∃ t', t = ⟨a + sz, nxt tt l2 - a - sz⟩ :: t') ∨ nxt tt l2 - a = sz ∧ ∀ g ∈ t, a + sz < g.f0) := by
  have hx : nxt tt l2 ≤ tt := by
    cases l2 with
    | nil => exact Int.le_refl _
    | cons x l2 =>
      simp only [gaps_walk] at h
      split at h
      · rename_i hf; exact hf.2.1
      · cases h
  have hfit : gaps_fits a tt ⟨a, sz⟩ := ⟨Int.le_refl _, hat, hs, by simp only; omega, h4, hs4⟩
  have hp0 : gaps_push acc a a = acc := by unfold gaps_push; rw [if_neg (by omega)]
  simp only [gaps_walk]
  rw [if_pos hfit, hp0]
  cases l2 with
  | nil =>
    simp only [nxt] at hle ha hx ⊢
    simp only [gaps_walk]
    unfold gaps_push
    by_cases hlt : tt > a + sz
    · rw [if_pos hlt]
      exact ⟨_, rfl, .inl ⟨by omega, [], by rw [show tt - (a + sz) = tt - a - sz by omega]⟩⟩
    · rw [if_neg hlt]
      exact ⟨[], by simp, .inr ⟨by omega, by simp⟩⟩
  | cons x l2 =>
    simp only [nxt] at hle ha hx ⊢
    simp only [gaps_walk] at h ⊢
    split at h
    · rename_i hf
      have hf' : gaps_fits (a + sz) tt x := ⟨by omega, hf.2⟩
      rw [if_pos hf']
      have hw := walk_acc tt l2 (gaps_push acc a x.f0) [] (x.f0 + x.f1)
      rw [List.append_nil, h] at hw
      cases hw2 : gaps_walk tt [] (x.f0 + x.f1) l2 with
      | none => rw [hw2] at hw; cases hw
      | some q =>
        have hw3 := walk_acc tt l2 (gaps_push acc (a + sz) x.f0) [] (x.f0 + x.f1)
        rw [List.append_nil, hw2] at hw3
        rw [hw3]
        simp only [Option.map_some]
        have hq := walk_from tt l2 [] (x.f0 + x.f1) q hw2 (by have := hf.2.2.2.1; omega)
        unfold gaps_push
        by_cases hlt : x.f0 > a + sz
        · rw [if_pos hlt]
          exact ⟨⟨a + sz, x.f0 - (a + sz)⟩ :: q, by simp, .inl ⟨by omega, q, by rw [show x.f0 - (a + sz) = x.f0 - a - sz by omega]⟩⟩
        · rw [if_neg hlt]
          refine ⟨q, rfl, .inr ⟨by omega, fun g hg => ?_⟩⟩
          rcases hq g hg with h1 | h1
          · simp at h1
          · have := hf.2.2.1; omega
    · cases h
/-- The first gap that begins at a place. -/
def behindOf (m : List S25) (v : Int) : Int := match m.find? (fun g => g.f0 == v) with | some g => g.f1 | none => 0
theorem Behind_loop (l : List S25) (x : Int) (h0 : 0 ≤ x) (h1 : x < (l.length : Int)) (m : List S25) (hm : m.length ≤ 140737488351232) : ∀ (d k i : Nat), i + d = m.length → d < k →
    gaps_Behind.l0 k l x m (m.length : Int) i = some (behindOf (m.drop i) (wrap64 ((rd_T25 l x).f0 + (rd_T25 l x).f1)), 0) := by
  intro d
  induction d with
  | zero =>
    intro k i hi hk
    obtain ⟨k, rfl⟩ : ∃ m, k = m + 1 := ⟨k - 1, by omega⟩
    simp only [gaps_Behind.l0]
    rw [if_neg (by omega), List.drop_of_length_le (by omega)]
    rfl
  | succ d ih =>
    intro k i hi hk
    obtain ⟨k, rfl⟩ : ∃ m, k = m + 1 := ⟨k - 1, by omega⟩
    have hlt : i < m.length := by omega
    rw [drop_rd hlt]
    simp only [gaps_Behind.l0]
    rw [if_pos (by omega), if_pos (by omega), if_pos (by omega), if_pos h0, if_pos h1, wrap_in (n := (i : Int) + 1) (by omega) (by omega)]
    have e1 : ((i : Int) + 1) = ((i + 1 : Nat) : Int) := by omega
    rw [e1, ih k (i + 1) (by omega) (by omega)]
    unfold behindOf
    by_cases hq : ((rd_T25 m i).f0 == wrap64 ((rd_T25 l x).f0 + (rd_T25 l x).f1)) = true
    · rw [if_pos hq, List.find?_cons_of_pos (by simpa using hq)]
    · rw [if_neg hq, List.find?_cons_of_neg (by simpa using hq)]
theorem Behind_is (fr tt : Int) (l r : List S25) (x : Int) (h0 : 0 ≤ x) (h1 : x < (l.length : Int)) (he : gaps_edges fr tt) (hw : gaps_walk tt [] fr l = some r) (hl : l.length ≤ 8796093022220) (k : Nat) (hk : l.length + 5 ≤ k) :
    gaps_Behind.f k fr tt l x = some (behindOf r (wrap64 ((rd_T25 l x).f0 + (rd_T25 l x).f1)), 0) := by
  obtain ⟨k, rfl⟩ : ∃ m, k = m + 1 := ⟨k - 1, by omega⟩
  unfold gaps_Behind.f gaps_Gaps.f
  have hlen := walk_length tt l [] fr r hw
  simp only [List.length_nil] at hlen
  simp only [Option.bind_some]
  rw [if_pos he, hw]
  simp only [if_true]
  rw [if_neg (by omega), decide_eq_false (by omega)]
  have hj : gaps_Behind.j0 (k + 1) l x r false = gaps_Behind.l0 k l x r (r.length : Int) 0 := rfl
  rw [hj]
  exact Behind_loop l x h0 h1 r (by omega) r.length k 0 (by omega) (by omega)
end Go.Proofs.Ytcjalhlejneddaa.Pure
