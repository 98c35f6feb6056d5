/- The document's functions on roots compute the same as the program's. -/
import Derived.Test.YtlhemachmidoaaaR3
import Derived.Test.YtlhemachmidoaaaP20
import Derived.Test.YtlhemachmidoaaaP22
import Derived.Test.YtlhemachmidoaaaP26
import Derived.Test.YtlhemachmidoaaaP27
import Derived.Test.YtlhemachmidoaaaP23
import Derived.Test.YtlhemachmidoaaaP13
namespace Go.Proofs.Ytlhemachmidoaaa.Pure
open Go.RowKit Go.Proofs.Ytlhemachmidoaaa.P Go.Proofs.Ytlhemachmidoaaa.Open Go.Proofs.YtlhemachmidoaaaW.PrintWords Go.Proofs.YtlhemachmidoaaaW.PrintLast
set_option linter.unusedVariables false
set_option linter.unusedSimpArgs false

theorem at_from (l : List S37) (s : ByteArray) (hl : l.length ≤ 140737488351232) : ∀ (d k i : Nat), i + d = l.length → d < k → NoneAhead l s i → joistref09_at.l0 k l s i = some (place_of l s) := by
  intro d
  induction d with
  | zero =>
    intro k i hi hk hn
    obtain ⟨k, rfl⟩ : ∃ m, k = m + 1 := ⟨k - 1, by omega⟩
    simp only [joistref09_at.l0]
    rw [if_neg (by omega), hn.done (by omega)]
  | succ d ih =>
    intro k i hi hk hn
    obtain ⟨k, rfl⟩ : ∃ m, k = m + 1 := ⟨k - 1, by omega⟩
    simp only [joistref09_at.l0]
    rw [if_pos (by omega), if_pos (by omega)]
    by_cases he : ((rd_T37 l i).f0).toList = s.toList
    · rw [if_pos he, hn.hit (by omega) (by unfold named; exact beq_iff_eq.2 he)]
    · rw [if_neg he, wrap_in (n := (i : Int) + 1) (by omega) (by omega)]
      have e1 : ((i : Int) + 1) = ((i + 1 : Nat) : Int) := by omega
      rw [e1]
      exact ih k (i + 1) (by omega) (by omega) (hn.next (by omega) (by unfold named; exact beq_eq_false_iff_ne.2 he))
theorem at_is (l : List S37) (s : ByteArray) (hl : l.length ≤ 140737488351232) (k : Nat) (hk : l.length < k) : joistref09_at.f k l s = some (place_of l s) :=
  at_from l s hl l.length k 0 (by omega) hk ⟨by omega, by simp⟩
theorem handle_f' (a b : Int) : joistref07_Right.f a b = some (handle_ok a b) := by
  rw [← handle_f]
  unfold joistref07_Right.f handle_Right.f
  have : decide (b ≤ 65535) = decide (b < 65536) := decide_eq_decide.2 (by omega)
  rw [this]
theorem names_empty (s : ByteArray) (h : s.toList = []) : names_right s = false := by
  have : s.size = 0 := by
    rw [ByteArray.toList_eq] at h
    have h2 := congrArg List.length h
    rw [Array.length_toList] at h2
    exact h2
  unfold names_right
  simp [this]
theorem DRight_from (l : List S37) (hl : l.length ≤ 140737488351232) : ∀ (d k i : Nat), i + d = l.length → d + l.length + 40 ≤ k → joistref09_Right.l0 k l i 0 0 = some (all_ok (l.take i) (l.drop i) && len_ok l.length) := by
  intro d
  induction d with
  | zero =>
    intro k i hi hk
    obtain ⟨k, rfl⟩ : ∃ m, k = m + 1 := ⟨k - 1, by omega⟩
    simp only [joistref09_Right.l0]
    rw [if_neg (by omega), List.drop_of_length_le (by omega)]
    simp only [all_ok, Bool.true_and]
    unfold len_ok
    by_cases h : 2 ≤ l.length ∧ l.length ≤ 8 ∧ l.length % 2 = 0
    · rw [if_pos (by omega), if_pos (by omega), decide_eq_true h]
      exact congrArg some (beq_iff_eq.2 (by omega))
    · rw [decide_eq_false h]
      split
      · split
        · exact congrArg some (beq_eq_false_iff_ne.2 (by omega))
        · rfl
      · rfl
  | succ d ih =>
    intro k i hi hk
    obtain ⟨k, rfl⟩ : ∃ m, k = m + 1 := ⟨k - 1, by omega⟩
    have hlt : i < l.length := by omega
    have hN := ih k (i + 1) (by omega) (by omega)
    rw [take_rd hlt] at hN
    rw [drop_rd hlt]
    simp only [all_ok]
    simp only [joistref09_Right.l0]
    rw [if_pos (by omega), if_pos (by omega), wrap_in (n := (i : Int) + 1) (by omega) (by omega)]
    have e1 : ((i : Int) + 1) = ((i + 1 : Nat) : Int) := by omega
    rw [e1, hN]
    generalize hxx : rd_T37 l i = x
    generalize all_ok (l.take i ++ [x]) (l.drop (i + 1)) = tail
    rw [names_is x.f0 k (by omega), handle_f', Int.toNat_natCast, at_is (l.take i) x.f0 (by rw [List.length_take]; omega) k (by rw [List.length_take]; omega)]
    unfold root_ok root_zero names_Right.f
    simp only [Option.bind_some, Int.toNat_natCast]
    by_cases he : x.f0.toList = []
    · rw [if_pos he, names_empty _ he, he]
      simp only [List.isEmpty_nil, Bool.true_and, Bool.false_and, Bool.or_false]
      cases x.f1.f0 == 0 with
      | false => simp
      | true =>
        cases x.f1.f1 == 0 with
        | false => simp
        | true => simp
    · rw [if_neg he, List.isEmpty_eq_false_iff.2 he, if_pos (show (i : Int) ≤ l.length by omega)]
      cases names_right x.f0 with
      | false => simp
      | true =>
        cases handle_ok x.f1.f0 x.f1.f1 with
        | false => simp
        | true =>
          by_cases hp : place_of (l.take i) x.f0 < 0
          · have : ¬ place_of (l.take i) x.f0 ≥ 0 := by omega
            simp [hp, this]
          · have : place_of (l.take i) x.f0 ≥ 0 := by omega
            simp [hp, this]
theorem DRight_is (l : List S37) (hl : l.length ≤ 140737488351232) (k : Nat) (hk : 2 * l.length + 40 ≤ k) : joistref09_Right.f k l = some (roots_right l) :=
  DRight_from l hl l.length k 0 (by omega) (by omega)
theorem asks_is (l : List S37) (s : ByteArray) (hl : l.length ≤ 140737488351232) (k : Nat) (hk : 2 * l.length + 40 ≤ k) :
    joistref09_asks.f k l s = some (if roots_right l = true then (if names_right s = true then 0 else 3) else 1) := by
  unfold joistref09_asks.f
  rw [DRight_is l hl k hk, names_is s k (by omega)]
  unfold names_Right.f
  simp only [Option.bind_some]
  split
  · split <;> rfl
  · rfl
theorem DGet_is (l : List S37) (s : ByteArray) (hl : l.length ≤ 140737488351232) (k : Nat) (hk : 2 * l.length + 40 ≤ k) :
    joistref09_Get.f k l s = some (get_of l s) := by
  unfold joistref09_Get.f get_of
  rw [asks_is l s hl k hk, at_is l s hl k (by omega)]
  have hp := place_lt l s
  split
  · split
    · simp only [Option.bind_some, if_true]
      by_cases h : place_of l s < 0
      · rw [if_pos h, if_pos h]
      · rw [if_neg h, if_neg h, if_pos (by omega), if_pos (by omega)]
    · rfl
  · rfl
theorem DSet_is (l : List S37) (s : ByteArray) (a b : Int) (hl : l.length < 4398046511104) (k : Nat) (hk : 2 * l.length + 40 ≤ k) :
    joistref09_Set.f k l s a b = some (set_of l s a b) := by
  unfold joistref09_Set.f set_of
  rw [asks_is l s (by omega) k hk, at_is l s (by omega) k (by omega), at_is l ⟨#[]⟩ (by omega) k (by omega), handle_f']
  have hp := place_lt l s
  have hp0 := place_lt l ⟨#[]⟩
  split
  · split
    · simp only [Option.bind_some, if_true]
      split
      · by_cases h : place_of l s < 0
        · rw [if_pos h, if_pos h]
          by_cases h2 : place_of l ⟨#[]⟩ < 0
          · rw [if_pos h2, if_pos h2]
          · rw [if_neg h2, if_neg h2, if_pos (by simpa using hl), if_pos (by omega), if_pos (by simp; omega)]
            rfl
        · rw [if_neg h, if_neg h, if_pos (by simpa using hl), if_pos (by omega), if_pos (by simp; omega)]
          rfl
      · rfl
    · rfl
  · rfl
theorem DDrop_is (l : List S37) (s : ByteArray) (hl : l.length < 4398046511104) (k : Nat) (hk : 2 * l.length + 40 ≤ k) :
    joistref09_Drop.f k l s = some (drop_of l s) := by
  unfold joistref09_Drop.f drop_of
  rw [asks_is l s (by omega) k hk, at_is l s (by omega) k (by omega)]
  have hp := place_lt l s
  split
  · split
    · simp only [Option.bind_some, if_true]
      by_cases h : place_of l s < 0
      · rw [if_pos h, if_pos h]
      · rw [if_neg h, if_neg h, if_pos (by simpa using hl), if_pos (by omega), if_pos (by simp; omega)]
        rfl
    · rfl
  · rfl
theorem Same_from (l : List S37) (hl : l.length ≤ 140737488351232) : ∀ (d k i : Nat), i + d = l.length → d < k → joistref09_Same.l0 k l l i = some true := by
  intro d
  induction d with
  | zero =>
    intro k i hi hk
    obtain ⟨k, rfl⟩ : ∃ m, k = m + 1 := ⟨k - 1, by omega⟩
    simp only [joistref09_Same.l0]
    rw [if_neg (by omega)]
  | succ d ih =>
    intro k i hi hk
    obtain ⟨k, rfl⟩ : ∃ m, k = m + 1 := ⟨k - 1, by omega⟩
    simp only [joistref09_Same.l0]
    rw [if_pos (by omega), if_pos (by omega), if_pos (by omega), wrap_in (n := (i : Int) + 1) (by omega) (by omega)]
    have e1 : ((i : Int) + 1) = ((i + 1 : Nat) : Int) := by omega
    rw [e1, if_neg (by simp)]
    exact ih k (i + 1) (by omega) (by omega)
theorem Same_is (l : List S37) (hl : l.length ≤ 140737488351232) (k : Nat) (hk : l.length < k) : joistref09_Same.f k l l = some true := by
  unfold joistref09_Same.f
  rw [if_pos rfl]
  exact Same_from l hl l.length k 0 (by omega) hk
theorem small_is : ∀ k, 60 ≤ k → joistlaw09_small.f k = some true := by
  intro k hk
  exact at_rounds joistlaw09_small.mono hk (by decide +kernel)
theorem set_len (l : List S37) (s : ByteArray) (a b : Int) : (set_of l s a b).1.length ≤ l.length := by
  unfold set_of put_of
  repeat' split
  all_goals simp
theorem drop_len (l : List S37) (s : ByteArray) : (drop_of l s).1.length ≤ l.length := by
  unfold drop_of put_of
  repeat' split
  all_goals simp
end Go.Proofs.Ytlhemachmidoaaa.Pure
