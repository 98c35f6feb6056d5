/- Roots: which ones are right, short ones; for the seat that reaches their bytes. -/
import Derived.Test.YtlhemachmidoaaaDoorR2
import Derived.Test.YtlhemachmidoaaaDoorP5
import Derived.Test.YtlhemachmidoaaaDoorP7
import Derived.Test.YtlhemachmidoaaaDoorP18
import Derived.Test.YtlhemachmidoaaaDoorOpenT
import Derived.OpenShut
import Derived.Test.YtlhemachmidoaaaDoorU3
import Derived.Test.YtlhemachmidoaaaDoorEw
import Derived.Test.YtlhemachmidoaaaDoorP17
import Derived.Test.YtlhemachmidoaaaDoorP9
namespace Go.Proofs.YtlhemachmidoaaaDoor.Pure
open Go.RowKit Go.Proofs.YtlhemachmidoaaaDoor.P Go.Proofs.YtlhemachmidoaaaDoor.Open Go.Proofs.YtlhemachmidoaaaDoorW.PrintWords Go.Proofs.YtlhemachmidoaaaDoorW.PrintLast
set_option linter.unusedVariables false
set_option linter.unusedSimpArgs false

def handle_ok (a b : Int) : Bool := decide (0 ≤ a ∧ a < 32 ∧ 0 ≤ b ∧ b < 65536)
def root_zero (r : S56) : Bool := r.f0.toList.isEmpty && (r.f1.f0 == 0 && (r.f1.f1 == 0))
def root_ok (pre : List S56) (r : S56) : Bool := root_zero r || (names_right r.f0 && (handle_ok r.f1.f0 r.f1.f1 && decide (place_of pre r.f0 < 0)))
def all_ok : List S56 → List S56 → Bool
  | _, [] => true
  | pre, r :: t => root_ok pre r && all_ok (pre ++ [r]) t
def len_ok (n : Nat) : Bool := decide (2 ≤ n ∧ n ≤ 8 ∧ n % 2 = 0)
def roots_right (l : List S56) : Bool := all_ok [] l && len_ok l.length
theorem handle_f (a b : Int) : handle_Right.f a b = some (handle_ok a b) := by
  unfold handle_Right.f handle_ok
  by_cases h : 0 ≤ a ∧ a < 32 ∧ 0 ≤ b ∧ b < 65536
  · rw [decide_eq_true h, if_pos h.1, if_pos h.2.1, if_pos h.2.2.1, decide_eq_true h.2.2.2]
  · rw [decide_eq_false h]
    split
    · split
      · split
        · rw [decide_eq_false (by omega)]
        · rfl
      · rfl
    · rfl
theorem New_is (n : Int) : roots_New.f n = some (if 2 ≤ n ∧ n ≤ 8 ∧ n % 2 = 0 then (List.replicate n.toNat z56, 0) else ([], 1)) := by
  unfold roots_New.f
  by_cases h : 2 ≤ n ∧ n ≤ 8 ∧ n % 2 = 0
  · rw [if_pos h, if_neg (by omega), if_neg (by omega), Int.tmod_eq_emod_of_nonneg (by omega), if_pos h.2.2, if_pos (by omega), if_pos (by omega)]
  · rw [if_neg h]
    by_cases h1 : n < 2
    · rw [if_pos h1]
    · rw [if_neg h1]
      by_cases h2 : n > 8
      · rw [if_pos h2]
      · rw [if_neg h2, Int.tmod_eq_emod_of_nonneg (by omega), if_neg (by omega)]
theorem drop_rd {l : List S56} {k : Nat} (h : k < l.length) : l.drop k = rd_T56 l k :: l.drop (k + 1) := by
  rw [List.drop_eq_getElem_cons h]
  congr 1
  unfold rd_T56
  rw [Int.toNat_natCast, List.getD_eq_getElem?_getD, List.getElem?_eq_getElem h]
  rfl
theorem Right_from (l : List S56) (hl : l.length ≤ 140737488351232) : ∀ (d k i : Nat), i + d = l.length → d < k → roots_Right.l0 k l l (l.length : Int) i = some (all_ok (l.take i) (l.drop i) && len_ok l.length) := by
  intro d
  induction d with
  | zero =>
    intro k i hi hk
    obtain ⟨k, rfl⟩ : ∃ m, k = m + 1 := ⟨k - 1, by omega⟩
    simp only [roots_Right.l0]
    rw [if_neg (by omega), List.drop_of_length_le (by omega), New_is]
    simp only [Option.bind_some, all_ok, Bool.true_and]
    unfold len_ok
    by_cases h : 2 ≤ l.length ∧ l.length ≤ 8 ∧ l.length % 2 = 0
    · rw [if_pos (by omega), decide_eq_true h]; rfl
    · rw [if_neg (by omega), decide_eq_false h]; rfl
  | succ d ih =>
    intro k i hi hk
    obtain ⟨k, rfl⟩ : ∃ m, k = m + 1 := ⟨k - 1, by omega⟩
    have hlt : i < l.length := by omega
    have hN := ih k (i + 1) (by omega) (by omega)
    rw [take_rd hlt] at hN
    rw [drop_rd hlt]
    simp only [all_ok]
    simp only [roots_Right.l0]
    rw [if_pos (by omega), if_pos (by omega), if_pos (by omega), wrap_in (n := (i : Int) + 1) (by omega) (by omega)]
    have e1 : ((i : Int) + 1) = ((i + 1 : Nat) : Int) := by omega
    rw [e1, hN]
    generalize hx : rd_T56 l i = x
    generalize all_ok (l.take i ++ [x]) (l.drop (i + 1)) = tail
    unfold root_ok root_zero names_Right.f roots_place.f
    rw [handle_f]
    simp only [Option.bind_some, Int.toNat_natCast]
    rw [if_pos (show (i : Int) ≤ l.length by omega)]
    cases (x.f0.toList.isEmpty && (x.f1.f0 == 0 && x.f1.f1 == 0)) with
    | true => simp
    | false =>
      cases names_right x.f0 with
      | false => simp
      | true =>
        cases handle_ok x.f1.f0 x.f1.f1 with
        | false => simp
        | true =>
          by_cases hp : place_of (l.take i) x.f0 < 0
          · have : ¬ place_of (l.take i) x.f0 ≥ 0 := by omega
            simp [hp, this]
          · have : place_of (l.take i) x.f0 ≥ 0 := by omega
            simp [hp, this]
theorem Right_is (l : List S56) (hl : l.length ≤ 140737488351232) (k : Nat) (hk : l.length < k) : roots_Right.f k l = some (roots_right l) :=
  Right_from l hl l.length k 0 (by omega) hk
/-- 'few' keeps the law short. -/
theorem few_from (l : List S56) (hl : l.length ≤ 140737488351232) : ∀ (d k i : Nat), i + d = l.length → d < k → ∃ b, joistlaw09_few.f k l = joistlaw09_few.l0 k l 0 ∧ joistlaw09_few.l0 k l i = some b ∧ (b = true → l.length ≤ 40) := by
  intro d
  induction d with
  | zero =>
    intro k i hi hk
    obtain ⟨k, rfl⟩ : ∃ m, k = m + 1 := ⟨k - 1, by omega⟩
    refine ⟨decide ((l.length : Int) ≤ 40), rfl, ?_, ?_⟩
    · simp only [joistlaw09_few.l0]
      rw [if_neg (by omega)]
    · intro h
      have := of_decide_eq_true h
      omega
  | succ d ih =>
    intro k i hi hk
    obtain ⟨k, rfl⟩ : ∃ m, k = m + 1 := ⟨k - 1, by omega⟩
    by_cases hb : (((rd_T56 l i).f0).size : Int) > 1024
    · refine ⟨false, rfl, ?_, fun h => by cases h⟩
      simp only [joistlaw09_few.l0]
      rw [if_pos (by omega), if_pos (by omega), if_pos hb]
    · obtain ⟨b, _, h1, h2⟩ := ih k (i + 1) (by omega) (by omega)
      refine ⟨b, rfl, ?_, h2⟩
      simp only [joistlaw09_few.l0]
      rw [if_pos (by omega), if_pos (by omega), if_neg hb, wrap_in (n := (i : Int) + 1) (by omega) (by omega)]
      exact h1
theorem few_is (l : List S56) (hl : l.length ≤ 140737488351232) : ∃ b, (b = true → l.length ≤ 40) ∧ ∀ k, l.length < k → joistlaw09_few.f k l = some b := by
  obtain ⟨b, h0, h1, h2⟩ := few_from l hl l.length (l.length + 1) 0 (by omega) (by omega)
  exact ⟨b, h2, fun k hk => at_rounds (fun k => joistlaw09_few.mono l k) (show l.length + 1 ≤ k by omega) (h0.trans h1)⟩
theorem names_empty (s : ByteArray) (h : s.toList = []) : names_right s = false := by
  have : s.size = 0 := by
    rw [ByteArray.toList_eq] at h
    have h2 := congrArg List.length h
    rw [Array.length_toList] at h2
    exact h2
  unfold names_right
  simp [this]
theorem Same_from (l : List S56) (hl : l.length ≤ 140737488351232) : ∀ (d k i : Nat), i + d = l.length → d < k → joistref09_Same.l0 k l l i = some true := by
  intro d
  induction d with
  | zero =>
    intro k i hi hk
    obtain ⟨k, rfl⟩ : ∃ m, k = m + 1 := ⟨k - 1, by omega⟩
    simp only [joistref09_Same.l0]
    rw [if_neg (by omega)]
  | succ d ih =>
    intro k i hi hk
    obtain ⟨k, rfl⟩ : ∃ m, k = m + 1 := ⟨k - 1, by omega⟩
    simp only [joistref09_Same.l0]
    rw [if_pos (by omega), if_pos (by omega), if_pos (by omega), wrap_in (n := (i : Int) + 1) (by omega) (by omega)]
    have e1 : ((i : Int) + 1) = ((i + 1 : Nat) : Int) := by omega
    rw [e1, if_neg (by simp)]
    exact ih k (i + 1) (by omega) (by omega)
theorem Same_is (l : List S56) (hl : l.length ≤ 140737488351232) (k : Nat) (hk : l.length < k) : joistref09_Same.f k l l = some true := by
  unfold joistref09_Same.f
  rw [if_pos rfl]
  exact Same_from l hl l.length k 0 (by omega) hk
theorem small_is : ∀ k, 60 ≤ k → joistlaw09_small.f k = some true := by
  intro k hk
  exact at_rounds joistlaw09_small.mono hk (by decide +kernel)
end Go.Proofs.YtlhemachmidoaaaDoor.Pure
/- Roots in bytes, and back: plain lists. -/
namespace Go.Proofs.YtlhemachmidoaaaDoor.Pure
open Go.RowKit Go.Proofs.YtlhemachmidoaaaDoor.P Go.Proofs.YtlhemachmidoaaaDoor.Open Go.Proofs.YtlhemachmidoaaaDoorW.PrintWords Go.Proofs.YtlhemachmidoaaaDoorW.PrintLast
set_option linter.unusedVariables false
set_option linter.unusedSimpArgs false

theorem byteAt_nat (n j : Nat) : byteAt (n : Int) j = ((n / 2 ^ (8 * j) % 256 : Nat) : Int) := by
  unfold byteAt
  rw [Int.natCast_emod, Int.natCast_ediv, Int.natCast_pow]
  rfl
/-! ### roots in bytes -/
def codeOf (r : S56) : Int := if r.f0.toList = [] then 0 else r.f1.f0 * 65536 + r.f1.f1 + 1
def rec32 (r : S56) : List Int := pad16 r.f0 ++ (w8 (codeOf r) ++ w8 0)
def okR (r : S56) : Prop := root_zero r = true ∨ (names_right r.f0 = true ∧ handle_ok r.f1.f0 r.f1.f1 = true)
theorem list_empty {s : ByteArray} (h : s.toList = []) : s.size = 0 := by
  rw [ByteArray.toList_eq] at h
  have h2 := congrArg List.length h
  rw [Array.length_toList] at h2
  exact h2
structure EntryOk (r : S56) : Prop where
  name : r.f0.size = 0 ∨ names_right r.f0 = true
  lo : 0 ≤ codeOf r
  hi : codeOf r ≤ 2097152
  back : ∃ is, handle_Of.f (codeOf r) = some (r.f1.f0, r.f1.f1, is)
theorem entry_ok {r : S56} (h : okR r) : EntryOk r := by
  rcases h with h | ⟨h1, h2⟩
  · unfold root_zero at h
    rw [Bool.and_eq_true, Bool.and_eq_true, beq_iff_eq, beq_iff_eq] at h
    obtain ⟨h0, h1, h2⟩ := h
    have he := List.isEmpty_iff.1 h0
    have hc : codeOf r = 0 := by unfold codeOf; rw [if_pos he]
    refine ⟨Or.inl (list_empty he), by omega, by omega, false, ?_⟩
    rw [hc, h1, h2]
    rfl
  · have hne : r.f0.toList ≠ [] := string_full (right_size h1).1
    have hc : codeOf r = r.f1.f0 * 65536 + r.f1.f1 + 1 := by unfold codeOf; rw [if_neg hne]
    unfold handle_ok at h2
    have hh := of_decide_eq_true h2
    refine ⟨Or.inr h1, by omega, by omega, true, ?_⟩
    rw [hc]
    unfold handle_Of.f
    rw [if_neg (by omega), if_neg (by omega), wrap_in (n := r.f1.f0 * 65536 + r.f1.f1 + 1 - 1) (by omega) (by omega), Int.tdiv_eq_ediv_of_nonneg (by omega), Int.tmod_eq_emod_of_nonneg (by omega), wrap_in (n := (r.f1.f0 * 65536 + r.f1.f1 + 1 - 1) / 65536) (by omega) (by omega)]
    congr 2
    · omega
    · congr 1
      omega
theorem all_okR : ∀ (l pre : List S56), all_ok pre l = true → ∀ r ∈ l, okR r := by
  intro l
  induction l with
  | nil => intro pre _ r hr; cases hr
  | cons x t ih =>
    intro pre h r hr
    rw [all_ok, Bool.and_eq_true] at h
    rcases List.mem_cons.1 hr with rfl | hr
    · have := h.1
      unfold root_ok at this
      rw [Bool.or_eq_true, Bool.and_eq_true, Bool.and_eq_true] at this
      exact this.imp id (fun h => ⟨h.1, h.2.1⟩)
    · exact ih _ h.2 r hr
theorem rec32_length {r : S56} (h : EntryOk r) : (rec32 r).length = 32 := by
  have h16 : r.f0.size ≤ 16 := by
    rcases h.name with h | h
    · omega
    · exact (right_size h).2
  unfold rec32
  rw [List.length_append, List.length_append, pad_length h16, w8_length, w8_length]
def recs (l : List S56) : List Int := (l.map rec32).flatten
theorem recs_length : ∀ (l : List S56), (∀ r ∈ l, EntryOk r) → (recs l).length = 32 * l.length := by
  intro l
  induction l with
  | nil => intro _; rfl
  | cons x t ih =>
    intro h
    have := ih (fun r hr => h r (List.mem_cons_of_mem _ hr))
    unfold recs at *
    rw [List.map_cons, List.flatten_cons, List.length_append, this, rec32_length (h x List.mem_cons_self), List.length_cons]
    omega
theorem bytes_loop (l : List S56) (hl : l.length ≤ 100) (ho : ∀ r ∈ l, EntryOk r) (hh : ∀ r ∈ l, okR r) : ∀ (d k i : Nat) (acc : List Int), i + d = l.length → d < k → acc.length ≤ 32 * i → roots_Bytes.l0 k acc l (l.length : Int) i = some (acc ++ recs (l.drop i), 0) := by
  intro d
  induction d with
  | zero =>
    intro k i acc hi hk ha
    obtain ⟨k, rfl⟩ : ∃ m, k = m + 1 := ⟨k - 1, by omega⟩
    simp only [roots_Bytes.l0]
    rw [if_neg (by omega), List.drop_of_length_le (by omega)]
    unfold recs
    simp
  | succ d ih =>
    intro k i acc hi hk ha
    obtain ⟨k, rfl⟩ : ∃ m, k = m + 1 := ⟨k - 1, by omega⟩
    have hlt : i < l.length := by omega
    have hx : rd_T56 l i ∈ l := by
      rw [show rd_T56 l i = l[i] by unfold rd_T56; rw [Int.toNat_natCast, List.getD_eq_getElem?_getD, List.getElem?_eq_getElem hlt]; rfl]
      exact List.getElem_mem hlt
    rw [drop_rd hlt]
    simp only [roots_Bytes.l0]
    rw [if_pos (by omega), if_pos (by omega), if_pos (by omega), wrap_in (n := (i : Int) + 1) (by omega) (by omega)]
    have e1 : ((i : Int) + 1) = ((i + 1 : Nat) : Int) := by omega
    rw [e1]
    have hE := ho _ hx
    have hO := hh _ hx
    generalize rd_T56 l i = x at hE hO ⊢
    have h16 : (pad16 x.f0).length = 16 := pad_length (by
      rcases hE.name with h | h
      · omega
      · exact (right_size h).2)
    have fin : roots_Bytes.l0 k (acc ++ pad16 x.f0 ++ (w8 (codeOf x) ++ w8 0)) l (l.length : Int) ((i + 1 : Nat) : Int) = some (acc ++ recs (x :: l.drop (i + 1)), 0) := by
      rw [ih k (i + 1) _ (by omega) (by omega) (by rw [List.length_append, List.length_append, List.length_append, h16, w8_length, w8_length]; omega)]
      unfold recs
      rw [List.map_cons, List.flatten_cons]
      unfold rec32
      simp only [List.append_assoc]
    have hlo := hE.lo
    have hhi := hE.hi
    unfold names_Bytes.f
    rw [if_pos hE.name]
    by_cases he : x.f0.toList = []
    · have hc : codeOf x = 0 := by unfold codeOf; rw [if_pos he]
      rw [hc] at fin
      rw [if_pos he]
      unfold words_Of.f
      simp only [Option.bind_some]
      rw [if_pos (by omega)]
      simp only [Option.bind_some]
      rw [if_pos (by rw [h16]; omega), if_pos (by simp only [List.length_append, h16, w8_length]; omega)]
      exact fin
    · have hc : codeOf x = x.f1.f0 * 65536 + x.f1.f1 + 1 := by unfold codeOf; rw [if_neg he]
      have hk2 : handle_ok x.f1.f0 x.f1.f1 = true := by
        rcases hO with h | h
        · unfold root_zero at h
          rw [Bool.and_eq_true] at h
          exact absurd (List.isEmpty_iff.1 h.1) he
        · exact h.2
      have hh2 := hk2
      unfold handle_ok at hh2
      have hh3 := of_decide_eq_true hh2
      rw [if_neg he]
      unfold handle_Code.f
      rw [handle_f, hk2]
      simp only [Option.bind_some, if_true]
      rw [wrap_in (n := x.f1.f0 * 65536) (by omega) (by omega), wrap_in (n := x.f1.f0 * 65536 + x.f1.f1) (by omega) (by omega), wrap_in (n := x.f1.f0 * 65536 + x.f1.f1 + 1) (by omega) (by omega), ← hc]
      unfold words_Of.f
      simp only
      rw [if_pos (by omega)]
      simp only [Option.bind_some]
      rw [if_pos (by rw [h16]; omega), if_pos (by simp only [List.length_append, h16, w8_length]; omega)]
      exact fin
end Go.Proofs.YtlhemachmidoaaaDoor.Pure
/- RootsBack over the printed functions. -/
namespace Go.Proofs.YtlhemachmidoaaaDoor.Pure
open Go.RowKit Go.Proofs.YtlhemachmidoaaaDoor.P Go.Proofs.YtlhemachmidoaaaDoor.Open Go.Proofs.YtlhemachmidoaaaDoorW.PrintWords Go.Proofs.YtlhemachmidoaaaDoorW.PrintLast
set_option linter.unusedVariables false
set_option linter.unusedSimpArgs false

theorem right_entries {l : List S56} (h : roots_right l = true) : (∀ r ∈ l, okR r) ∧ (∀ r ∈ l, EntryOk r) ∧ l.length ≤ 8 ∧ 2 ≤ l.length := by
  unfold roots_right at h
  rw [Bool.and_eq_true] at h
  have h1 := all_okR l [] h.1
  have h2 := h.2
  unfold len_ok at h2
  have h3 := of_decide_eq_true h2
  exact ⟨h1, fun r hr => entry_ok (h1 r hr), h3.2.1, h3.1⟩
theorem bytes_is (l : List S56) (hl : l.length ≤ 140737488351232) (k : Nat) (hk : l.length < k) : roots_Bytes.f k l = some (if roots_right l = true then (recs l, 0) else ([], 1)) := by
  unfold roots_Bytes.f
  rw [Right_is l hl k hk]
  simp only [Option.bind_some]
  by_cases h : roots_right l = true
  · obtain ⟨h1, h2, h3, _⟩ := right_entries h
    rw [if_pos h, if_pos h]
    have := bytes_loop l (by omega) h2 h1 l.length k 0 [] (by omega) hk (Nat.zero_le _)
    rw [List.drop_zero, List.nil_append] at this
    exact this
  · rw [if_neg h, if_neg h]
theorem read_some (l : List Int) (hl : l.length = 8) : ∀ (d k i : Nat) (x : Int), i + d = 8 → d < k → ∃ p, words_read.l0 k l x (i : Int) = some p := by
  intro d
  induction d with
  | zero =>
    intro k i x hi hk
    obtain ⟨k, rfl⟩ : ∃ m, k = m + 1 := ⟨k - 1, by omega⟩
    simp only [words_read.l0]
    rw [if_neg (by omega)]
    exact ⟨_, rfl⟩
  | succ d ih =>
    intro k i x hi hk
    obtain ⟨k, rfl⟩ : ∃ m, k = m + 1 := ⟨k - 1, by omega⟩
    have hw : wrap64 (7 - (i : Int)) = (d : Int) := by rw [wrap_in (n := 7 - (i : Int)) (by omega) (by omega)]; omega
    simp only [words_read.l0]
    rw [if_pos (by omega), hw, if_pos (by omega), if_pos (by omega), wrap_in (n := (i : Int) + 1) (by omega) (by omega)]
    have e1 : ((i : Int) + 1) = ((i + 1 : Nat) : Int) := by omega
    rw [e1]
    exact ih k (i + 1) _ (by omega) (by omega)
def ReadOk (x0 : List Int) (m : List S56) (is : Bool) : Prop := (is = true → m.length ≤ 8 ∧ roots_right m = true ∧ (strOfNums (recs m)).toList = (strOfNums x0).toList) ∧ (is = false → m = [])
theorem read_no (x0 : List Int) : ReadOk x0 [] false := And.intro (fun h => by cases h) (fun _ => rfl)
theorem read_any (x0 : List Int) : ∀ (d : Nat) (rest : List Int) (acc : List S56) (k : Nat), rest.length = 32 * d → acc.length + d ≤ 8 → d + 60 ≤ k → ∃ m is, roots_Read.l0 k x0 acc rest = some (m, is) ∧ ReadOk x0 m is := by
  intro d
  induction d with
  | zero =>
    intro rest acc k hr ha hk
    obtain ⟨k, rfl⟩ : ∃ m, k = m + 1 := ⟨k - 1, by omega⟩
    simp only [roots_Read.l0]
    rw [if_neg (by omega), bytes_is acc (by omega) k (by omega)]
    by_cases h : roots_right acc = true
    · rw [if_pos h]
      simp only [Option.bind_some, if_true]
      unfold bytes_Equal.f
      simp only [Option.bind_some]
      by_cases he : (strOfNums (recs acc)).toList = (strOfNums x0).toList
      · rw [if_pos (beq_iff_eq.2 he)]
        exact ⟨_, _, rfl, ⟨fun _ => ⟨by omega, h, he⟩, fun h => by cases h⟩⟩
      · rw [if_neg (by rw [beq_iff_eq]; exact he)]
        exact ⟨_, _, rfl, read_no _⟩
    · rw [if_neg h]
      simp only [Option.bind_some]
      rw [if_neg (by decide)]
      exact ⟨_, _, rfl, read_no _⟩
  | succ d ih =>
    intro rest acc k hr ha hk
    obtain ⟨k, rfl⟩ : ∃ m, k = m + 1 := ⟨k - 1, by omega⟩
    simp only [roots_Read.l0]
    rw [if_pos (by omega), if_pos (by omega)]
    unfold names_Read.f
    simp only [Option.bind_some]
    rw [if_pos (by decide), if_pos (by omega)]
    have hl16 : ((rest.take 32).drop 16).length = 16 := by rw [List.length_drop, List.length_take]; omega
    have hl8 : (((rest.take 32).drop 16).take 8).length = 8 := by rw [List.length_take]; omega
    have hget : ∃ p, words_Get.f k ((rest.take 32).drop 16) 0 = some p := by
      unfold words_Get.f
      rw [if_pos ⟨rfl, hl16⟩]
      unfold words_read.f
      rw [if_pos (by omega)]
      split
      · exact ⟨_, rfl⟩
      · exact read_some _ hl8 8 k 0 0 (by omega) (by omega)
    obtain ⟨p, hp⟩ := hget
    have hof : ∀ c, ∃ q, handle_Of.f c = some q := by
      intro c
      unfold handle_Of.f
      split
      · exact ⟨_, rfl⟩
      · split <;> exact ⟨_, rfl⟩
    obtain ⟨q, hq⟩ := hof p.1
    rw [hp]
    simp only [Option.bind_some]
    rw [hq]
    simp only [Option.bind_some]
    rw [if_pos (by omega)]
    exact ih _ _ k (by rw [List.length_drop]; omega) (by rw [List.length_append, List.length_singleton]; omega) (by omega)
theorem read_all (b : List Int) (k : Nat) (hk : 100 ≤ k) : ∃ m is, roots_Read.f k b = some (m, is) ∧ ReadOk b m is := by
  obtain ⟨k, rfl⟩ : ∃ m, k = m + 1 := ⟨k - 1, by omega⟩
  unfold roots_Read.f
  by_cases h : ((b.length : Int) % 32) = 0
  · rw [if_pos h]
    by_cases h2 : (b.length : Int) > 256
    · rw [decide_eq_true h2]
      exact ⟨_, _, rfl, read_no _⟩
    · rw [decide_eq_false h2]
      simp only [roots_Read.j0]
      rw [if_neg (by decide)]
      exact read_any b (b.length / 32) b [] k (by omega) (by rw [List.length_nil]; omega) (by omega)
  · rw [if_neg h]
    exact ⟨_, _, rfl, read_no _⟩
end Go.Proofs.YtlhemachmidoaaaDoor.Pure
