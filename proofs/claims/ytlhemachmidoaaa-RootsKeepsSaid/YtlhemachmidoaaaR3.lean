/- What the program's functions on roots and the document's compute: one Lean function for both. -/
import Derived.Test.YtlhemachmidoaaaR2
import Derived.Test.YtlhemachmidoaaaP12
import Derived.Test.YtlhemachmidoaaaP9
import Derived.Test.YtlhemachmidoaaaP25
import Derived.Test.YtlhemachmidoaaaP14
import Derived.Test.YtlhemachmidoaaaOpenT
import Derived.OpenShut
namespace Go.Proofs.Ytlhemachmidoaaa.Pure
open Go.RowKit Go.Proofs.Ytlhemachmidoaaa.P Go.Proofs.Ytlhemachmidoaaa.Open Go.Proofs.YtlhemachmidoaaaW.PrintWords Go.Proofs.YtlhemachmidoaaaW.PrintLast
set_option linter.unusedVariables false
set_option linter.unusedSimpArgs false

def handle_ok (a b : Int) : Bool := decide (0 ≤ a ∧ a < 32 ∧ 0 ≤ b ∧ b < 65536)
def root_zero (r : S37) : Bool := r.f0.toList.isEmpty && (r.f1.f0 == 0 && (r.f1.f1 == 0))
def root_ok (pre : List S37) (r : S37) : Bool := root_zero r || (names_right r.f0 && (handle_ok r.f1.f0 r.f1.f1 && decide (place_of pre r.f0 < 0)))
def all_ok : List S37 → List S37 → Bool
  | _, [] => true
  | pre, r :: t => root_ok pre r && all_ok (pre ++ [r]) t
def len_ok (n : Nat) : Bool := decide (2 ≤ n ∧ n ≤ 8 ∧ n % 2 = 0)
def roots_right (l : List S37) : Bool := all_ok [] l && len_ok l.length
theorem handle_f (a b : Int) : handle_Right.f a b = some (handle_ok a b) := by
  unfold handle_Right.f handle_ok
  by_cases h : 0 ≤ a ∧ a < 32 ∧ 0 ≤ b ∧ b < 65536
  · rw [decide_eq_true h, if_pos h.1, if_pos h.2.1, if_pos h.2.2.1, decide_eq_true h.2.2.2]
  · rw [decide_eq_false h]
    split
    · split
      · split
        · rw [decide_eq_false (by omega)]
        · rfl
      · rfl
    · rfl
theorem New_is (n : Int) : roots_New.f n = some (if 2 ≤ n ∧ n ≤ 8 ∧ n % 2 = 0 then (List.replicate n.toNat z37, 0) else ([], 1)) := by
  unfold roots_New.f
  by_cases h : 2 ≤ n ∧ n ≤ 8 ∧ n % 2 = 0
  · rw [if_pos h, if_neg (by omega), if_neg (by omega), Int.tmod_eq_emod_of_nonneg (by omega), if_pos h.2.2, if_pos (by omega), if_pos (by omega)]
  · rw [if_neg h]
    by_cases h1 : n < 2
    · rw [if_pos h1]
    · rw [if_neg h1]
      by_cases h2 : n > 8
      · rw [if_pos h2]
      · rw [if_neg h2, Int.tmod_eq_emod_of_nonneg (by omega), if_neg (by omega)]
theorem drop_rd {l : List S37} {k : Nat} (h : k < l.length) : l.drop k = rd_T37 l k :: l.drop (k + 1) := by
  rw [List.drop_eq_getElem_cons h]
  congr 1
  unfold rd_T37
  rw [Int.toNat_natCast, List.getD_eq_getElem?_getD, List.getElem?_eq_getElem h]
  rfl
theorem Right_from (l : List S37) (hl : l.length ≤ 140737488351232) : ∀ (d k i : Nat), i + d = l.length → d < k → roots_Right.l0 k l l (l.length : Int) i = some (all_ok (l.take i) (l.drop i) && len_ok l.length) := by
  intro d
  induction d with
  | zero =>
    intro k i hi hk
    obtain ⟨k, rfl⟩ : ∃ m, k = m + 1 := ⟨k - 1, by omega⟩
    simp only [roots_Right.l0]
    rw [if_neg (by omega), List.drop_of_length_le (by omega), New_is]
    simp only [Option.bind_some, all_ok, Bool.true_and]
    unfold len_ok
    by_cases h : 2 ≤ l.length ∧ l.length ≤ 8 ∧ l.length % 2 = 0
    · rw [if_pos (by omega), decide_eq_true h]; rfl
    · rw [if_neg (by omega), decide_eq_false h]; rfl
  | succ d ih =>
    intro k i hi hk
    obtain ⟨k, rfl⟩ : ∃ m, k = m + 1 := ⟨k - 1, by omega⟩
    have hlt : i < l.length := by omega
    have hN := ih k (i + 1) (by omega) (by omega)
    rw [take_rd hlt] at hN
    rw [drop_rd hlt]
    simp only [all_ok]
    simp only [roots_Right.l0]
    rw [if_pos (by omega), if_pos (by omega), if_pos (by omega), wrap_in (n := (i : Int) + 1) (by omega) (by omega)]
    have e1 : ((i : Int) + 1) = ((i + 1 : Nat) : Int) := by omega
    rw [e1, hN]
    generalize hx : rd_T37 l i = x
    generalize all_ok (l.take i ++ [x]) (l.drop (i + 1)) = tail
    unfold root_ok root_zero names_Right.f roots_place.f
    rw [handle_f]
    simp only [Option.bind_some, Int.toNat_natCast]
    rw [if_pos (show (i : Int) ≤ l.length by omega)]
    cases (x.f0.toList.isEmpty && (x.f1.f0 == 0 && x.f1.f1 == 0)) with
    | true => simp
    | false =>
      cases names_right x.f0 with
      | false => simp
      | true =>
        cases handle_ok x.f1.f0 x.f1.f1 with
        | false => simp
        | true =>
          by_cases hp : place_of (l.take i) x.f0 < 0
          · have : ¬ place_of (l.take i) x.f0 ≥ 0 := by omega
            simp [hp, this]
          · have : place_of (l.take i) x.f0 ≥ 0 := by omega
            simp [hp, this]
theorem Right_is (l : List S37) (hl : l.length ≤ 140737488351232) (k : Nat) (hk : l.length < k) : roots_Right.f k l = some (roots_right l) :=
  Right_from l hl l.length k 0 (by omega) hk
def find_of (l : List S37) (s : ByteArray) : Int × Int := if roots_right l = true then (if names_right s = true then (place_of l s, 0) else (0, 3)) else (0, 1)
theorem find_is (l : List S37) (s : ByteArray) (hl : l.length ≤ 140737488351232) (k : Nat) (hk : l.length < k) : roots_find.f k l s = some (find_of l s) := by
  unfold roots_find.f find_of names_Right.f roots_place.f
  rw [Right_is l hl k hk]
  simp only [Option.bind_some]
  split
  · split <;> rfl
  · rfl
theorem place_lt (l : List S37) (s : ByteArray) : -1 ≤ place_of l s ∧ place_of l s < l.length := by
  unfold place_of
  cases h : l.findIdx? (named s) with
  | none => exact ⟨Int.le_refl _, show (-1 : Int) < _ by omega⟩
  | some k =>
    obtain ⟨hk, _⟩ := List.findIdx?_eq_some_iff_getElem.1 h
    exact ⟨show (-1 : Int) ≤ (k : Int) by omega, show (k : Int) < l.length by omega⟩
def get_of (l : List S37) (s : ByteArray) : Int × Int × Int :=
  if roots_right l = true then (if names_right s = true then (if place_of l s < 0 then (0, 0, 11) else ((rd_T37 l (place_of l s)).f1.f0, (rd_T37 l (place_of l s)).f1.f1, 0)) else (0, 0, 3)) else (0, 0, 1)
theorem Get_is (l : List S37) (s : ByteArray) (hl : l.length ≤ 140737488351232) (k : Nat) (hk : l.length < k) : roots_Get.f k l s = some (get_of l s) := by
  unfold roots_Get.f get_of
  rw [find_is l s hl k hk]
  unfold find_of
  have hp := place_lt l s
  split
  · split
    · simp only [Option.bind_some, if_true]
      by_cases h : place_of l s < 0
      · rw [if_pos h, if_pos h]
      · rw [if_neg h, if_neg h, if_pos (by omega), if_pos (by omega)]
    · rfl
  · rfl
def put_of (l : List S37) (q : Int) (s : ByteArray) (a b : Int) : List S37 := l.set q.toNat ⟨s, ⟨a, b⟩⟩
theorem with_is (l : List S37) (q : Int) (s : ByteArray) (a b : Int) (hl : l.length < 4398046511104) (h0 : 0 ≤ q) (h1 : q < l.length) : roots_with.f l q s a b = some (put_of l q s a b) := by
  unfold roots_with.f api_Root.f put_of
  rw [if_pos hl]
  simp only [Option.bind_some]
  rw [if_pos h0, if_pos h1]
def set_of (l : List S37) (s : ByteArray) (a b : Int) : List S37 × Int :=
  if roots_right l = true then (if names_right s = true then (if handle_ok a b = true then
    (if place_of l s < 0 then (if place_of l ⟨#[]⟩ < 0 then ([], 9) else (put_of l (place_of l ⟨#[]⟩) s a b, 0)) else (put_of l (place_of l s) s a b, 0)) else ([], 1)) else ([], 3)) else ([], 1)
theorem Set_is (l : List S37) (s : ByteArray) (a b : Int) (hl : l.length < 4398046511104) (k : Nat) (hk : l.length < k) : roots_Set.f k l s a b = some (set_of l s a b) := by
  unfold roots_Set.f set_of
  rw [find_is l s (by omega) k hk, handle_f]
  unfold find_of roots_place.f
  have hp := place_lt l s
  have hp0 := place_lt l ⟨#[]⟩
  split
  · split
    · simp only [Option.bind_some, if_true]
      split
      · by_cases h : place_of l s < 0
        · rw [if_pos h, if_pos h]
          by_cases h2 : place_of l ⟨#[]⟩ < 0
          · rw [if_pos h2, if_pos h2]
          · rw [if_neg h2, if_neg h2, with_is l _ s a b hl (by omega) (by omega)]
            rfl
        · rw [if_neg h, if_neg h, with_is l _ s a b hl (by omega) (by omega)]
          rfl
      · rfl
    · rfl
  · rfl
def drop_of (l : List S37) (s : ByteArray) : List S37 × Int :=
  if roots_right l = true then (if names_right s = true then (if place_of l s < 0 then ([], 11) else (put_of l (place_of l s) ⟨#[]⟩ 0 0, 0)) else ([], 3)) else ([], 1)
theorem Drop_is (l : List S37) (s : ByteArray) (hl : l.length < 4398046511104) (k : Nat) (hk : l.length < k) : roots_Drop.f k l s = some (drop_of l s) := by
  unfold roots_Drop.f drop_of
  rw [find_is l s (by omega) k hk]
  unfold find_of
  have hp := place_lt l s
  split
  · split
    · simp only [Option.bind_some, if_true]
      by_cases h : place_of l s < 0
      · rw [if_pos h, if_pos h]
      · rw [if_neg h, if_neg h, with_is l _ _ 0 0 hl (by omega) (by omega)]
        rfl
    · rfl
  · rfl
/-- 'few' keeps the law short. -/
theorem few_from (l : List S37) (hl : l.length ≤ 140737488351232) : ∀ (d k i : Nat), i + d = l.length → d < k → ∃ b, joistlaw09_few.f k l = joistlaw09_few.l0 k l 0 ∧ joistlaw09_few.l0 k l i = some b ∧ (b = true → l.length ≤ 40) := by
  intro d
  induction d with
  | zero =>
    intro k i hi hk
    obtain ⟨k, rfl⟩ : ∃ m, k = m + 1 := ⟨k - 1, by omega⟩
    refine ⟨decide ((l.length : Int) ≤ 40), rfl, ?_, ?_⟩
    · simp only [joistlaw09_few.l0]
      rw [if_neg (by omega)]
    · intro h
      have := of_decide_eq_true h
      omega
  | succ d ih =>
    intro k i hi hk
    obtain ⟨k, rfl⟩ : ∃ m, k = m + 1 := ⟨k - 1, by omega⟩
    by_cases hb : (((rd_T37 l i).f0).size : Int) > 1024
    · refine ⟨false, rfl, ?_, fun h => by cases h⟩
      simp only [joistlaw09_few.l0]
      rw [if_pos (by omega), if_pos (by omega), if_pos hb]
    · obtain ⟨b, _, h1, h2⟩ := ih k (i + 1) (by omega) (by omega)
      refine ⟨b, rfl, ?_, h2⟩
      simp only [joistlaw09_few.l0]
      rw [if_pos (by omega), if_pos (by omega), if_neg hb, wrap_in (n := (i : Int) + 1) (by omega) (by omega)]
      exact h1
theorem few_is (l : List S37) (hl : l.length ≤ 140737488351232) : ∃ b, (b = true → l.length ≤ 40) ∧ ∀ k, l.length < k → joistlaw09_few.f k l = some b := by
  obtain ⟨b, h0, h1, h2⟩ := few_from l hl l.length (l.length + 1) 0 (by omega) (by omega)
  exact ⟨b, h2, fun k hk => at_rounds (fun k => joistlaw09_few.mono l k) (show l.length + 1 ≤ k by omega) (h0.trans h1)⟩
end Go.Proofs.Ytlhemachmidoaaa.Pure
