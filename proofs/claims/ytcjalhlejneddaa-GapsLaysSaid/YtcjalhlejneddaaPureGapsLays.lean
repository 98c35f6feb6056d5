/- A block that is laid at the beginning of the gap that fits best keeps the blocks right, and leaves behind it what the gap had more: for any blocks and any bytes. -/
import Derived.Test.YtcjalhlejneddaaG3
import Derived.Test.YtcjalhlejneddaaPureGapsNeeds
import Derived.Test.YtcjalhlejneddaaP9
namespace Go.Proofs.Ytcjalhlejneddaa.Pure
open Go.RowKit Go.Proofs.Ytcjalhlejneddaa.P Go.Proofs.Ytcjalhlejneddaa.Open Go.Proofs.YtcjalhlejneddaaW.PrintWords Go.Proofs.YtcjalhlejneddaaW.PrintLast
set_option linter.unusedVariables false
set_option linter.unusedSimpArgs false

/-- Where no gap fits, all of them are too small. -/
theorem Lays_none (l : List S25) (size e : Int) (hl : l.length ≤ 140737488351232) (h : e = 0 → ∀ x ∈ l, ¬ x.f1 ≥ size) : ∀ (d k i : Nat), i + d = l.length → 2 * d + 1 < k → joistlaw10_GapsLays.l0 k true l size e i = some true := by
  intro d
  induction d with
  | zero =>
    intro k i hi hk
    obtain ⟨k, rfl⟩ : ∃ m, k = m + 2 := ⟨k - 2, by omega⟩
    simp only [joistlaw10_GapsLays.l0, joistlaw10_GapsLays.j2]
    rw [if_neg (by omega)]
    simp
  | succ d ih =>
    intro k i hi hk
    obtain ⟨k, rfl⟩ : ∃ m, k = m + 2 := ⟨k - 2, by omega⟩
    have hlt : i < l.length := by omega
    have hmem : rd_T25 l i ∈ l := List.mem_of_mem_drop ((drop_rd hlt) ▸ List.mem_cons_self)
    simp only [joistlaw10_GapsLays.l0, joistlaw10_GapsLays.j2]
    rw [if_pos (by omega)]
    by_cases he : e = 0
    · rw [if_pos (by rw [he]; decide), if_pos (by omega), if_pos (by omega), if_neg (h he _ hmem), wrap_in (n := (i : Int) + 1) (by omega) (by omega)]
      have e1 : ((i : Int) + 1) = ((i + 1 : Nat) : Int) := by omega
      rw [e1]
      exact ih k (i + 1) (by omega) (by omega)
    · rw [if_neg (by simpa using he)]
/-- What the law asks once the new blocks stand. -/
def laysEnd (k : Nat) (fr tt n : Int) (size s1 : Int) (now : List S25) (j : Int) : Option Bool :=
  (gaps_Behind.f k fr tt now j).bind fun b => (gaps_Right.f fr tt now).bind fun t => if t = true then (if b.2 = 0 then (if b.1 = wrap64 (s1 - size) then (if size ≥ wrap64 (2 + wrap64 (Int.tdiv (wrap64 (n + 7)) 8)) then some (decide (size < wrap64 (6 + wrap64 (Int.tdiv (wrap64 (n + 7)) 8)))) else some false) else some false) else some false) else some false
theorem Lays_loop (fr tt n size s0 s1 : Int) (u1 u2 : List S25) (hl : (u1 ++ u2).length ≤ 8796093022200) (h1 : ∀ x ∈ u1, x.f0 < s0) (h2 : ∀ x, u2.head? = some x → ¬ x.f0 < s0) (k0 : Nat) : ∀ (d i : Nat), i + d = u1.length →
    ∀ k, k = k0 + 1 + d → joistlaw10_GapsLays.l1 k fr tt (u1 ++ u2) n true size (u1.take i) i s0 s1 = laysEnd k0 fr tt n size s1 (u1 ++ [⟨s0, size⟩] ++ u2) u1.length := by
  intro d
  rw [List.length_append] at hl
  induction d with
  | zero =>
    intro i hi k hk
    subst hk
    obtain rfl : i = u1.length := by omega
    rw [List.take_length]
    simp only [joistlaw10_GapsLays.l1]
    have hdrop : (u1 ++ u2).drop u1.length = u2 := by simp
    have tail : ∀ q : Option Bool, q = ((some (u1 ++ [(⟨s0, size⟩ : S25)] : List S25)).bind fun y241 => (if 0 ≤ (u1.length : Int) then (if (u1.length : Int) ≤ ((u1 ++ u2).length : Int) then ((some ((u1 ++ u2).drop ((u1.length : Int) : Int).toNat : List S25)).bind fun y244 => (if y241.length + y244.length < 8796093022208 then ((some (y241 ++ y244 : List S25)).bind fun y248 => laysEnd k0 fr tt n size s1 y248 u1.length) else none)) else none) else none)) → q = laysEnd k0 fr tt n size s1 (u1 ++ [⟨s0, size⟩] ++ u2) u1.length := by
      intro q hq
      rw [hq]
      simp only [Option.bind_some, Int.toNat_natCast, hdrop]
      rw [if_pos (by omega), if_pos (by rw [List.length_append]; omega), if_pos (by simp; omega)]
    refine tail _ ?_
    unfold laysEnd
    by_cases hlt : (u1.length : Int) < ((u1 ++ u2).length : Int)
    · rw [if_pos hlt, if_pos (by omega)]
      have hx : rd_T25 (u1 ++ u2) u1.length = rd_T25 u2 0 := by unfold rd_T25; simp [List.getElem?_append_right]
      rw [hx]
      have hnl : ¬ (rd_T25 u2 0).f0 < s0 := by
        cases u2 with
        | nil => simp at hlt
        | cons x u2 => exact h2 x rfl
      rw [if_neg hnl, if_pos (by omega)]
      simp only [if_true]
    · rw [if_neg hlt, if_pos (by omega)]
      simp only [if_true]
  | succ d ih =>
    intro i hi k hk
    subst hk
    have hlt : i < u1.length := by omega
    rw [show k0 + 1 + (d + 1) = (k0 + 1 + d) + 1 by omega]
    simp only [joistlaw10_GapsLays.l1]
    have hx : rd_T25 (u1 ++ u2) i = rd_T25 u1 i := by
      unfold rd_T25
      rw [Int.toNat_natCast, List.getD_eq_getElem?_getD, List.getD_eq_getElem?_getD, List.getElem?_append_left hlt]
    have hmem : rd_T25 u1 i ∈ u1 := List.mem_of_mem_drop ((drop_rd hlt) ▸ List.mem_cons_self)
    rw [if_pos (by rw [List.length_append]; omega), if_pos (by omega), hx, if_pos (h1 _ hmem), if_pos (by rw [List.length_take]; omega), wrap_in (n := (i : Int) + 1) (by omega) (by omega)]
    have e1 : ((i : Int) + 1) = ((i + 1 : Nat) : Int) := by omega
    have e2 : u1.take i ++ [rd_T25 u1 i] = u1.take (i + 1) := by
      rw [List.take_succ_eq_append_getElem hlt]
      congr 2
      unfold rd_T25
      rw [Int.toNat_natCast, List.getD_eq_getElem?_getD, List.getElem?_eq_getElem hlt]
      rfl
    have e3 : (⟨(rd_T25 u1 i).f0, (rd_T25 u1 i).f1⟩ : S25) = rd_T25 u1 i := rfl
    rw [e1, e3, e2]
    exact ih (i + 1) (by omega) _ rfl
theorem Lays_end (fr tt n size : Int) (u1 u2 acc r : List S25) (s : S25) (he : gaps_edges fr tt) (hr : gaps_run tt [] fr u1 = some (acc, s.f0)) (hw : gaps_walk tt acc s.f0 u2 = some r) (hs1 : s.f1 = nxt tt u2 - s.f0) (hlt : s.f0 < nxt tt u2) (hsz : s.f1 ≥ size)
    (hn : 1 ≤ n ∧ n ≤ 2048) (hsize : size = (2 + (n + 7) / 8 + 3) / 4 * 4) (hl : (u1 ++ u2).length ≤ 8796093022200) (k : Nat) (hk : (u1 ++ u2).length + 10 ≤ k) :
    laysEnd k fr tt n size s.f1 (u1 ++ [⟨s.f0, size⟩] ++ u2) u1.length = some true := by
  have R := run_of tt u1 [] fr acc s.f0 hr (by have := he.2.1; omega) he.2.2.2.1
  have hfr := he.1
  have htt := he.2.2.1
  have hle := R.le
  have hle2 := R.le2
  obtain ⟨t, ht, hcase⟩ := laid_walk tt acc s.f0 size u2 r he.2.2.2.2 R.m4 (by omega) (by omega) (by omega) hlt hw R.le2
  have hw2 : gaps_walk tt [] fr (u1 ++ [⟨s.f0, size⟩] ++ u2) = some (acc ++ t) := by
    rw [List.append_assoc, walk_append, hr]
    exact ht
  have hlen : (u1 ++ [(⟨s.f0, size⟩ : S25)] ++ u2).length = (u1 ++ u2).length + 1 := by simp; omega
  unfold laysEnd
  rw [Behind_is fr tt _ _ u1.length (by omega) (by simp; omega) he hw2 (by omega) k (by omega)]
  have hrd : rd_T25 (u1 ++ [(⟨s.f0, size⟩ : S25)] ++ u2) u1.length = ⟨s.f0, size⟩ := by unfold rd_T25; simp
  rw [hrd]
  have hnx : nxt tt u2 ≤ tt := by
    cases u2 with
    | nil => exact Int.le_refl _
    | cons x u2 =>
      simp only [gaps_walk] at hw
      split at hw
      · rename_i hf; exact hf.2.1
      · cases hw
  have hright : gaps_Right.f fr tt (u1 ++ [⟨s.f0, size⟩] ++ u2) = some true := by unfold gaps_Right.f; rw [if_pos he, hw2]; rfl
  rw [hright]
  simp only [Option.bind_some, if_true]
  rw [wrap_in (n := s.f0 + size) (by omega) (by omega), wrap_in (n := s.f1 - size) (by omega) (by omega)]
  have hb : behindOf (acc ++ t) (s.f0 + size) = s.f1 - size := by
    have hacc : acc.find? (fun g => g.f0 == s.f0 + size) = none := by
      rw [List.find?_eq_none]
      intro g hg
      have := R.gap g hg
      simp at this ⊢
      omega
    unfold behindOf
    rw [List.find?_append, hacc, Option.none_or]
    rcases hcase with ⟨h1, t', rfl⟩ | ⟨h1, h2⟩
    · rw [List.find?_cons_of_pos (by simp)]
      simp only
      omega
    · have : t.find? (fun g => g.f0 == s.f0 + size) = none := by
        rw [List.find?_eq_none]
        intro g hg
        have := h2 g hg
        simp
        omega
      rw [this]
      simp only
      omega
  rw [hb, if_pos rfl, wrap_in (n := n + 7) (by omega) (by omega), Int.tdiv_eq_ediv_of_nonneg (a := n + 7) (by omega), wrap_in (n := (n + 7) / 8) (by omega) (by omega), wrap_in (n := 2 + (n + 7) / 8) (by omega) (by omega), wrap_in (n := 6 + (n + 7) / 8) (by omega) (by omega), if_pos (by omega), decide_eq_true (by omega)]
theorem GapsLays (a0 : Int) (a1 : Int) (l2 : List (S25)) (a3 : Int) (w0 : (Lit.int .i64 a0).wf = true) (w1 : (Lit.int .i64 a1).wf = true) (w2 : (l2.length ≤ maxLen ∧ l2.length * 16 ≤ 140737488351232 ∧ ∀ x ∈ l2, ok25 x)) (w3 : (Lit.int .i64 a3).wf = true) : ∃ k, joistlaw10_GapsLays.f k a0 a1 l2 a3 = some true := by
  have hl : l2.length ≤ 8796093022200 := by omega
  have hn := bounds_i64 w3
  have hg : ∃ g e, gaps_Gaps.f a0 a1 l2 = some (g, e) ∧ g.length ≤ l2.length + 1 ∧ (e = 0 ∧ gaps_edges a0 a1 ∧ gaps_walk a1 [] a0 l2 = some g ∨ e = 1 ∧ g = []) := by
    unfold gaps_Gaps.f
    by_cases he : gaps_edges a0 a1
    · rw [if_pos he]
      cases hw : gaps_walk a1 [] a0 l2 with
      | none => exact ⟨_, _, rfl, by simp, .inr ⟨rfl, rfl⟩⟩
      | some r => exact ⟨_, _, rfl, by have := walk_length a1 l2 [] a0 r hw; simpa using this, .inl ⟨rfl, he, rfl⟩⟩
    · rw [if_neg he]; exact ⟨_, _, rfl, by simp, .inr ⟨rfl, rfl⟩⟩
  obtain ⟨g, e, hg, hgl, hcase⟩ := hg
  have key : ∀ K, 3 * l2.length + 30 ≤ K → joistlaw10_GapsLays.f K a0 a1 l2 a3 = some true ∨ ∃ (s : S25) (u1 u2 acc : List S25), l2 = u1 ++ u2 ∧ joistlaw10_GapsLays.f K a0 a1 l2 a3 = joistlaw10_GapsLays.j0 K a0 a1 l2 a3 true g ((2 + (a3 + 7) / 8 + 3) / 4 * 4) 0 false s.f0 s.f1 ∧
      (gaps_edges a0 a1 ∧ gaps_run a1 [] a0 u1 = some (acc, s.f0) ∧ gaps_walk a1 acc s.f0 u2 = some g ∧ s.f1 = nxt a1 u2 - s.f0 ∧ s.f0 < nxt a1 u2 ∧ s.f1 ≥ (2 + (a3 + 7) / 8 + 3) / 4 * 4 ∧ 1 ≤ a3 ∧ a3 ≤ 2048) := by
    intro K hK
    obtain ⟨K, rfl⟩ : ∃ m, K = m + 1 := ⟨K - 1, by omega⟩
    unfold joistlaw10_GapsLays.f
    rw [small_at (by omega), hg, need_is a3 hn]
    simp only [Option.bind_some]
    have hbest := best_of (if 1 ≤ a3 ∧ a3 ≤ 2048 then ((2 + (a3 + 7) / 8 + 3) / 4 * 4, (0 : Int)) else (0, 1)).1 g none
    rw [Best_is g _ (by omega) _ (by omega)]
    simp only [Option.bind_some]
    generalize g.foldl (bstep (if 1 ≤ a3 ∧ a3 ≤ 2048 then ((2 + (a3 + 7) / 8 + 3) / 4 * 4, (0 : Int)) else (0, 1)).1) none = b at hbest ⊢
    have hno : ∀ (x y size f : Int), (f = 0 → ∀ x ∈ g, ¬ x.f1 ≥ size) → joistlaw10_GapsLays.j0 (K + 1) a0 a1 l2 a3 true g size f true x y = some true := by
      intro x y size f hh
      simp only [joistlaw10_GapsLays.j0, if_true]
      exact Lays_none g size f (by omega) hh g.length K 0 (by omega) (by omega)
    rcases hcase with ⟨rfl, he, hw⟩ | ⟨rfl, rfl⟩
    · simp only [if_true]
      by_cases hn2 : 1 ≤ a3 ∧ a3 ≤ 2048
      · rw [if_pos hn2] at hbest ⊢
        simp only [if_true] at hbest ⊢
        cases b with
        | none => exact .inl (hno _ _ _ _ (fun _ => hbest.2))
        | some s =>
          right
          obtain ⟨h1, _⟩ := hbest
          rcases h1 with h1 | ⟨h1, h2⟩
          · cases h1
          · rcases walk_mem a1 l2 [] a0 g s hw h1 with h3 | ⟨u1, u2, acc, rfl, h4, h5, h6⟩
            · simp at h3
            · refine ⟨s, u1, u2, acc, rfl, rfl, he, h4, ?_, h5, h6, h2, hn2⟩
              rw [walk_append, h4] at hw
              exact hw
      · rw [if_neg hn2]
        simp only
        rw [if_neg (by decide)]
        exact .inl (hno _ _ _ _ (fun h => absurd h (by decide)))
    · rw [if_neg (by decide)]
      exact .inl (hno _ _ _ _ (fun _ => by simp))
  refine ⟨3 * l2.length + 50, ?_⟩
  rcases key (3 * l2.length + 50) (by omega) with h | ⟨s, u1, u2, acc, rfl, h, he, hr, hw, h5, h6, h7, h8⟩
  · exact h
  · rw [h]
    have R := run_of a1 u1 [] a0 acc s.f0 hr (by have := he.2.1; omega) he.2.2.2.1
    have hj : ∀ K, joistlaw10_GapsLays.j0 (K + 1) a0 a1 (u1 ++ u2) a3 true g ((2 + (a3 + 7) / 8 + 3) / 4 * 4) 0 false s.f0 s.f1 = joistlaw10_GapsLays.l1 K a0 a1 (u1 ++ u2) a3 true ((2 + (a3 + 7) / 8 + 3) / 4 * 4) [] 0 s.f0 s.f1 := fun K => rfl
    rw [show 3 * (u1 ++ u2).length + 50 = (3 * (u1 ++ u2).length + 49) + 1 by omega, hj]
    have hul : u1.length ≤ (u1 ++ u2).length := by simp
    have := Lays_loop a0 a1 a3 ((2 + (a3 + 7) / 8 + 3) / 4 * 4) s.f0 s.f1 u1 u2 hl (fun x hx => (R.blk x hx).2) (fun x hx => by
      cases u2 with
      | nil => cases hx
      | cons y u2 =>
        obtain rfl : y = x := by simpa using hx
        simp only [nxt] at h6
        omega) (3 * (u1 ++ u2).length + 48 - u1.length) u1.length 0 (by omega) (3 * (u1 ++ u2).length + 49) (by omega)
    rw [List.take_zero] at this
    rw [show ((0 : Nat) : Int) = 0 from rfl] at this
    rw [this]
    exact Lays_end a0 a1 a3 _ u1 u2 acc g s he hr hw h5 h6 h7 h8 rfl hl _ (by omega)

end Go.Proofs.Ytcjalhlejneddaa.Pure
