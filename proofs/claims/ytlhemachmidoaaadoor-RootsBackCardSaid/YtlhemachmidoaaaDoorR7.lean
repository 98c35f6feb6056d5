/- Roots: which ones are right, short ones; for the seat that reaches their bytes. -/
import Derived.Test.YtlhemachmidoaaaDoorR2
import Derived.Test.YtlhemachmidoaaaDoorP5
import Derived.Test.YtlhemachmidoaaaDoorP7
import Derived.Test.YtlhemachmidoaaaDoorP7
import Derived.Test.YtlhemachmidoaaaDoorP15
import Derived.Test.YtlhemachmidoaaaDoorOpenT
import Derived.OpenShut
namespace Go.Proofs.YtlhemachmidoaaaDoor.Pure
open Go.RowKit Go.Proofs.YtlhemachmidoaaaDoor.P Go.Proofs.YtlhemachmidoaaaDoor.Open Go.Proofs.YtlhemachmidoaaaDoorW.PrintWords Go.Proofs.YtlhemachmidoaaaDoorW.PrintLast
set_option linter.unusedVariables false
set_option linter.unusedSimpArgs false

def handle_ok (a b : Int) : Bool := decide (0 ≤ a ∧ a < 32 ∧ 0 ≤ b ∧ b < 65536)
def root_zero (r : S56) : Bool := r.f0.toList.isEmpty && (r.f1.f0 == 0 && (r.f1.f1 == 0))
def root_ok (pre : List S56) (r : S56) : Bool := root_zero r || (names_right r.f0 && (handle_ok r.f1.f0 r.f1.f1 && decide (place_of pre r.f0 < 0)))
def all_ok : List S56 → List S56 → Bool
  | _, [] => true
  | pre, r :: t => root_ok pre r && all_ok (pre ++ [r]) t
def len_ok (n : Nat) : Bool := decide (2 ≤ n ∧ n ≤ 8 ∧ n % 2 = 0)
def roots_right (l : List S56) : Bool := all_ok [] l && len_ok l.length
theorem handle_f (a b : Int) : handle_Right.f a b = some (handle_ok a b) := by
  unfold handle_Right.f handle_ok
  by_cases h : 0 ≤ a ∧ a < 32 ∧ 0 ≤ b ∧ b < 65536
  · rw [decide_eq_true h, if_pos h.1, if_pos h.2.1, if_pos h.2.2.1, decide_eq_true h.2.2.2]
  · rw [decide_eq_false h]
    split
    · split
      · split
        · rw [decide_eq_false (by omega)]
        · rfl
      · rfl
    · rfl
theorem New_is (n : Int) : roots_New.f n = some (if 2 ≤ n ∧ n ≤ 8 ∧ n % 2 = 0 then (List.replicate n.toNat z56, 0) else ([], 1)) := by
  unfold roots_New.f
  by_cases h : 2 ≤ n ∧ n ≤ 8 ∧ n % 2 = 0
  · rw [if_pos h, if_neg (by omega), if_neg (by omega), Int.tmod_eq_emod_of_nonneg (by omega), if_pos h.2.2, if_pos (by omega), if_pos (by omega)]
  · rw [if_neg h]
    by_cases h1 : n < 2
    · rw [if_pos h1]
    · rw [if_neg h1]
      by_cases h2 : n > 8
      · rw [if_pos h2]
      · rw [if_neg h2, Int.tmod_eq_emod_of_nonneg (by omega), if_neg (by omega)]
theorem drop_rd {l : List S56} {k : Nat} (h : k < l.length) : l.drop k = rd_T56 l k :: l.drop (k + 1) := by
  rw [List.drop_eq_getElem_cons h]
  congr 1
  unfold rd_T56
  rw [Int.toNat_natCast, List.getD_eq_getElem?_getD, List.getElem?_eq_getElem h]
  rfl
theorem Right_from (l : List S56) (hl : l.length ≤ 140737488351232) : ∀ (d k i : Nat), i + d = l.length → d < k → roots_Right.l0 k l l (l.length : Int) i = some (all_ok (l.take i) (l.drop i) && len_ok l.length) := by
  intro d
  induction d with
  | zero =>
    intro k i hi hk
    obtain ⟨k, rfl⟩ : ∃ m, k = m + 1 := ⟨k - 1, by omega⟩
    simp only [roots_Right.l0]
    rw [if_neg (by omega), List.drop_of_length_le (by omega), New_is]
    simp only [Option.bind_some, all_ok, Bool.true_and]
    unfold len_ok
    by_cases h : 2 ≤ l.length ∧ l.length ≤ 8 ∧ l.length % 2 = 0
    · rw [if_pos (by omega), decide_eq_true h]; rfl
    · rw [if_neg (by omega), decide_eq_false h]; rfl
  | succ d ih =>
    intro k i hi hk
    obtain ⟨k, rfl⟩ : ∃ m, k = m + 1 := ⟨k - 1, by omega⟩
    have hlt : i < l.length := by omega
    have hN := ih k (i + 1) (by omega) (by omega)
    rw [take_rd hlt] at hN
    rw [drop_rd hlt]
    simp only [all_ok]
    simp only [roots_Right.l0]
    rw [if_pos (by omega), if_pos (by omega), if_pos (by omega), wrap_in (n := (i : Int) + 1) (by omega) (by omega)]
    have e1 : ((i : Int) + 1) = ((i + 1 : Nat) : Int) := by omega
    rw [e1, hN]
    generalize hx : rd_T56 l i = x
    generalize all_ok (l.take i ++ [x]) (l.drop (i + 1)) = tail
    unfold root_ok root_zero names_Right.f roots_place.f
    rw [handle_f]
    simp only [Option.bind_some, Int.toNat_natCast]
    rw [if_pos (show (i : Int) ≤ l.length by omega)]
    cases (x.f0.toList.isEmpty && (x.f1.f0 == 0 && x.f1.f1 == 0)) with
    | true => simp
    | false =>
      cases names_right x.f0 with
      | false => simp
      | true =>
        cases handle_ok x.f1.f0 x.f1.f1 with
        | false => simp
        | true =>
          by_cases hp : place_of (l.take i) x.f0 < 0
          · have : ¬ place_of (l.take i) x.f0 ≥ 0 := by omega
            simp [hp, this]
          · have : place_of (l.take i) x.f0 ≥ 0 := by omega
            simp [hp, this]
theorem Right_is (l : List S56) (hl : l.length ≤ 140737488351232) (k : Nat) (hk : l.length < k) : roots_Right.f k l = some (roots_right l) :=
  Right_from l hl l.length k 0 (by omega) hk
/-- 'few' keeps the law short. -/
theorem few_from (l : List S56) (hl : l.length ≤ 140737488351232) : ∀ (d k i : Nat), i + d = l.length → d < k → ∃ b, joistlaw09_few.f k l = joistlaw09_few.l0 k l 0 ∧ joistlaw09_few.l0 k l i = some b ∧ (b = true → l.length ≤ 40) := by
  intro d
  induction d with
  | zero =>
    intro k i hi hk
    obtain ⟨k, rfl⟩ : ∃ m, k = m + 1 := ⟨k - 1, by omega⟩
    refine ⟨decide ((l.length : Int) ≤ 40), rfl, ?_, ?_⟩
    · simp only [joistlaw09_few.l0]
      rw [if_neg (by omega)]
    · intro h
      have := of_decide_eq_true h
      omega
  | succ d ih =>
    intro k i hi hk
    obtain ⟨k, rfl⟩ : ∃ m, k = m + 1 := ⟨k - 1, by omega⟩
    by_cases hb : (((rd_T56 l i).f0).size : Int) > 1024
    · refine ⟨false, rfl, ?_, fun h => by cases h⟩
      simp only [joistlaw09_few.l0]
      rw [if_pos (by omega), if_pos (by omega), if_pos hb]
    · obtain ⟨b, _, h1, h2⟩ := ih k (i + 1) (by omega) (by omega)
      refine ⟨b, rfl, ?_, h2⟩
      simp only [joistlaw09_few.l0]
      rw [if_pos (by omega), if_pos (by omega), if_neg hb, wrap_in (n := (i : Int) + 1) (by omega) (by omega)]
      exact h1
theorem few_is (l : List S56) (hl : l.length ≤ 140737488351232) : ∃ b, (b = true → l.length ≤ 40) ∧ ∀ k, l.length < k → joistlaw09_few.f k l = some b := by
  obtain ⟨b, h0, h1, h2⟩ := few_from l hl l.length (l.length + 1) 0 (by omega) (by omega)
  exact ⟨b, h2, fun k hk => at_rounds (fun k => joistlaw09_few.mono l k) (show l.length + 1 ≤ k by omega) (h0.trans h1)⟩
theorem names_empty (s : ByteArray) (h : s.toList = []) : names_right s = false := by
  have : s.size = 0 := by
    rw [ByteArray.toList_eq] at h
    have h2 := congrArg List.length h
    rw [Array.length_toList] at h2
    exact h2
  unfold names_right
  simp [this]
theorem Same_from (l : List S56) (hl : l.length ≤ 140737488351232) : ∀ (d k i : Nat), i + d = l.length → d < k → joistref09_Same.l0 k l l i = some true := by
  intro d
  induction d with
  | zero =>
    intro k i hi hk
    obtain ⟨k, rfl⟩ : ∃ m, k = m + 1 := ⟨k - 1, by omega⟩
    simp only [joistref09_Same.l0]
    rw [if_neg (by omega)]
  | succ d ih =>
    intro k i hi hk
    obtain ⟨k, rfl⟩ : ∃ m, k = m + 1 := ⟨k - 1, by omega⟩
    simp only [joistref09_Same.l0]
    rw [if_pos (by omega), if_pos (by omega), if_pos (by omega), wrap_in (n := (i : Int) + 1) (by omega) (by omega)]
    have e1 : ((i : Int) + 1) = ((i + 1 : Nat) : Int) := by omega
    rw [e1, if_neg (by simp)]
    exact ih k (i + 1) (by omega) (by omega)
theorem Same_is (l : List S56) (hl : l.length ≤ 140737488351232) (k : Nat) (hk : l.length < k) : joistref09_Same.f k l l = some true := by
  unfold joistref09_Same.f
  rw [if_pos rfl]
  exact Same_from l hl l.length k 0 (by omega) hk
theorem small_is : ∀ k, 60 ≤ k → joistlaw09_small.f k = some true := by
  intro k hk
  exact at_rounds joistlaw09_small.mono hk (by decide +kernel)
end Go.Proofs.YtlhemachmidoaaaDoor.Pure
