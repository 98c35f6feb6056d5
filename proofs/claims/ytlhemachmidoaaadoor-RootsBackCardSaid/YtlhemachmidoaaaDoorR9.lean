/- RootsBack over the printed functions. -/
import Derived.Test.YtlhemachmidoaaaDoorR8
import Derived.Test.YtlhemachmidoaaaDoorP15
namespace Go.Proofs.YtlhemachmidoaaaDoor.Pure
open Go.RowKit Go.Proofs.YtlhemachmidoaaaDoor.P Go.Proofs.YtlhemachmidoaaaDoor.Open Go.Proofs.YtlhemachmidoaaaDoorW.PrintWords Go.Proofs.YtlhemachmidoaaaDoorW.PrintLast
set_option linter.unusedVariables false
set_option linter.unusedSimpArgs false

theorem right_entries {l : List S56} (h : roots_right l = true) : (∀ r ∈ l, okR r) ∧ (∀ r ∈ l, EntryOk r) ∧ l.length ≤ 8 ∧ 2 ≤ l.length := by
  unfold roots_right at h
  rw [Bool.and_eq_true] at h
  have h1 := all_okR l [] h.1
  have h2 := h.2
  unfold len_ok at h2
  have h3 := of_decide_eq_true h2
  exact ⟨h1, fun r hr => entry_ok (h1 r hr), h3.2.1, h3.1⟩
theorem bytes_is (l : List S56) (hl : l.length ≤ 140737488351232) (k : Nat) (hk : l.length < k) : roots_Bytes.f k l = some (if roots_right l = true then (recs l, 0) else ([], 1)) := by
  unfold roots_Bytes.f
  rw [Right_is l hl k hk]
  simp only [Option.bind_some]
  by_cases h : roots_right l = true
  · obtain ⟨h1, h2, h3, _⟩ := right_entries h
    rw [if_pos h, if_pos h]
    have := bytes_loop l (by omega) h2 h1 l.length k 0 [] (by omega) hk (Nat.zero_le _)
    rw [List.drop_zero, List.nil_append] at this
    exact this
  · rw [if_neg h, if_neg h]
theorem read_steps (x0 : List Int) : ∀ (t acc : List S56) (k : Nat), (∀ r ∈ t, EntryOk r) → acc.length + t.length ≤ 100 → t.length + 20 ≤ k → roots_Read.l0 k x0 acc (recs t) = roots_Read.l0 (k - t.length) x0 (acc ++ t) [] := by
  intro t
  induction t with
  | nil => intro acc k _ _ _; rw [List.append_nil]; rfl
  | cons r t ih =>
    intro acc k ho hl hk
    obtain ⟨k, rfl⟩ : ∃ m, k = m + 1 := ⟨k - 1, by rw [List.length_cons] at hk; omega⟩
    rw [List.length_cons] at hl hk
    have hE := ho r List.mem_cons_self
    have ho2 : ∀ r ∈ t, EntryOk r := fun x hx => ho x (List.mem_cons_of_mem _ hx)
    have h32 := rec32_length hE
    have hrec : recs (r :: t) = rec32 r ++ recs t := by unfold recs; rw [List.map_cons, List.flatten_cons]
    have hlen : (recs (r :: t)).length = 32 + (recs t).length := by rw [hrec, List.length_append, h32]
    have h16 : (pad16 r.f0).length = 16 := pad_length (by
      rcases hE.name with h | h
      · omega
      · exact (right_size h).2)
    have t16 : (recs (r :: t)).take 16 = pad16 r.f0 := by
      rw [hrec]
      unfold rec32
      rw [List.append_assoc]
      exact List.take_left' h16
    have t32 : ((recs (r :: t)).take 32).drop 16 = w8 (codeOf r) ++ w8 0 := by
      rw [hrec, List.take_left' h32]
      unfold rec32
      exact List.drop_left' h16
    have d32 : (recs (r :: t)).drop 32 = recs t := by
      rw [hrec]
      exact List.drop_left' h32
    obtain ⟨is, hback⟩ := hE.back
    have hlo := hE.lo
    have hhi := hE.hi
    have hget : words_Get.f k (w8 (codeOf r) ++ w8 0) 0 = some (codeOf r, true) := by
      unfold words_Get.f
      rw [if_pos ⟨rfl, by rw [List.length_append, w8_length, w8_length]⟩, List.take_left' (w8_length _)]
      have := read_w8 (codeOf r).toNat (by omega) k (by omega)
      rw [Int.toNat_of_nonneg hlo] at this
      exact this
    simp only [roots_Read.l0]
    rw [if_pos (by omega), if_pos (by omega), t16]
    unfold names_Read.f
    rw [read_bytes hE.name]
    simp only [Option.bind_some]
    rw [if_pos (by decide), if_pos (by omega), t32, hget]
    simp only [Option.bind_some]
    rw [hback]
    simp only [Option.bind_some]
    rw [if_pos (by omega), d32, ih _ k ho2 (by rw [List.length_append, List.length_singleton]; omega) (by omega), List.append_assoc, List.length_cons, show k + 1 - (t.length + 1) = k - t.length by omega]
    rfl
theorem equal_self (l : List Int) : bytes_Equal.f l l = some true := by
  unfold bytes_Equal.f
  simp
theorem read_back (l : List S56) (h : roots_right l = true) (k : Nat) (hk : 100 ≤ k) : roots_Read.f k (recs l) = some (l, true) := by
  obtain ⟨h1, h2, h3, h4⟩ := right_entries h
  have hlen := recs_length l h2
  obtain ⟨k, rfl⟩ : ∃ m, k = m + 1 := ⟨k - 1, by omega⟩
  unfold roots_Read.f
  rw [if_pos (by omega), show decide (((recs l).length : Int) > 256) = false from decide_eq_false (by omega)]
  simp only [roots_Read.j0]
  rw [if_neg (by decide), read_steps (recs l) l [] k h2 (by rw [List.length_nil]; omega) (by omega), List.nil_append]
  obtain ⟨j, hj⟩ : ∃ m, k - l.length = m + 1 := ⟨k - l.length - 1, by omega⟩
  rw [hj]
  simp only [roots_Read.l0]
  rw [if_neg (by simp), bytes_is l (by omega) j (by omega), if_pos h]
  simp only [Option.bind_some, if_true]
  rw [equal_self]
  rfl
theorem read_some (l : List Int) (hl : l.length = 8) : ∀ (d k i : Nat) (x : Int), i + d = 8 → d < k → ∃ p, words_read.l0 k l x (i : Int) = some p := by
  intro d
  induction d with
  | zero =>
    intro k i x hi hk
    obtain ⟨k, rfl⟩ : ∃ m, k = m + 1 := ⟨k - 1, by omega⟩
    simp only [words_read.l0]
    rw [if_neg (by omega)]
    exact ⟨_, rfl⟩
  | succ d ih =>
    intro k i x hi hk
    obtain ⟨k, rfl⟩ : ∃ m, k = m + 1 := ⟨k - 1, by omega⟩
    have hw : wrap64 (7 - (i : Int)) = (d : Int) := by rw [wrap_in (n := 7 - (i : Int)) (by omega) (by omega)]; omega
    simp only [words_read.l0]
    rw [if_pos (by omega), hw, if_pos (by omega), if_pos (by omega), wrap_in (n := (i : Int) + 1) (by omega) (by omega)]
    have e1 : ((i : Int) + 1) = ((i + 1 : Nat) : Int) := by omega
    rw [e1]
    exact ih k (i + 1) _ (by omega) (by omega)
def ReadOk (x0 : List Int) (m : List S56) (is : Bool) : Prop := (is = true → m.length ≤ 8 ∧ roots_right m = true ∧ (strOfNums (recs m)).toList = (strOfNums x0).toList) ∧ (is = false → m = [])
theorem read_no (x0 : List Int) : ReadOk x0 [] false := And.intro (fun h => by cases h) (fun _ => rfl)
theorem read_any (x0 : List Int) : ∀ (d : Nat) (rest : List Int) (acc : List S56) (k : Nat), rest.length = 32 * d → acc.length + d ≤ 8 → d + 60 ≤ k → ∃ m is, roots_Read.l0 k x0 acc rest = some (m, is) ∧ ReadOk x0 m is := by
  intro d
  induction d with
  | zero =>
    intro rest acc k hr ha hk
    obtain ⟨k, rfl⟩ : ∃ m, k = m + 1 := ⟨k - 1, by omega⟩
    simp only [roots_Read.l0]
    rw [if_neg (by omega), bytes_is acc (by omega) k (by omega)]
    by_cases h : roots_right acc = true
    · rw [if_pos h]
      simp only [Option.bind_some, if_true]
      unfold bytes_Equal.f
      simp only [Option.bind_some]
      by_cases he : (strOfNums (recs acc)).toList = (strOfNums x0).toList
      · rw [if_pos (beq_iff_eq.2 he)]
        exact ⟨_, _, rfl, ⟨fun _ => ⟨by omega, h, he⟩, fun h => by cases h⟩⟩
      · rw [if_neg (by rw [beq_iff_eq]; exact he)]
        exact ⟨_, _, rfl, read_no _⟩
    · rw [if_neg h]
      simp only [Option.bind_some]
      rw [if_neg (by decide)]
      exact ⟨_, _, rfl, read_no _⟩
  | succ d ih =>
    intro rest acc k hr ha hk
    obtain ⟨k, rfl⟩ : ∃ m, k = m + 1 := ⟨k - 1, by omega⟩
    simp only [roots_Read.l0]
    rw [if_pos (by omega), if_pos (by omega)]
    unfold names_Read.f
    simp only [Option.bind_some]
    rw [if_pos (by decide), if_pos (by omega)]
    have hl16 : ((rest.take 32).drop 16).length = 16 := by rw [List.length_drop, List.length_take]; omega
    have hl8 : (((rest.take 32).drop 16).take 8).length = 8 := by rw [List.length_take]; omega
    have hget : ∃ p, words_Get.f k ((rest.take 32).drop 16) 0 = some p := by
      unfold words_Get.f
      rw [if_pos ⟨rfl, hl16⟩]
      unfold words_read.f
      rw [if_pos (by omega)]
      split
      · exact ⟨_, rfl⟩
      · exact read_some _ hl8 8 k 0 0 (by omega) (by omega)
    obtain ⟨p, hp⟩ := hget
    have hof : ∀ c, ∃ q, handle_Of.f c = some q := by
      intro c
      unfold handle_Of.f
      split
      · exact ⟨_, rfl⟩
      · split <;> exact ⟨_, rfl⟩
    obtain ⟨q, hq⟩ := hof p.1
    rw [hp]
    simp only [Option.bind_some]
    rw [hq]
    simp only [Option.bind_some]
    rw [if_pos (by omega)]
    exact ih _ _ k (by rw [List.length_drop]; omega) (by rw [List.length_append, List.length_singleton]; omega) (by omega)
theorem read_all (b : List Int) (k : Nat) (hk : 100 ≤ k) : ∃ m is, roots_Read.f k b = some (m, is) ∧ ReadOk b m is := by
  obtain ⟨k, rfl⟩ : ∃ m, k = m + 1 := ⟨k - 1, by omega⟩
  unfold roots_Read.f
  by_cases h : ((b.length : Int) % 32) = 0
  · rw [if_pos h]
    by_cases h2 : (b.length : Int) > 256
    · rw [decide_eq_true h2]
      exact ⟨_, _, rfl, read_no _⟩
    · rw [decide_eq_false h2]
      simp only [roots_Read.j0]
      rw [if_neg (by decide)]
      exact read_any b (b.length / 32) b [] k (by omega) (by rw [List.length_nil]; omega) (by omega)
  · rw [if_neg h]
    exact ⟨_, _, rfl, read_no _⟩
theorem back0 (b : List Int) (k : Nat) (hk : 101 ≤ k) : joistlaw09_RootsBack.j0 k b true = some true := by
  obtain ⟨k, rfl⟩ : ∃ m, k = m + 1 := ⟨k - 1, by omega⟩
  simp only [joistlaw09_RootsBack.j0]
  obtain ⟨m, is, hm, h1, h2⟩ := read_all b k (by omega)
  rw [hm]
  simp only [Option.bind_some]
  cases is with
  | true =>
    obtain ⟨h3, h4, h5⟩ := h1 rfl
    rw [if_pos rfl, bytes_is m (by omega) k (by omega), if_pos h4]
    simp only [Option.bind_some, if_true]
    rw [h5]
    simp
  | false =>
    obtain rfl := h2 rfl
    rfl
theorem rootsBack (l : List S56) (b : List Int) (hl : l.length ≤ 140737488351232) : ∃ k, joistlaw09_RootsBack.f k l b = some true := by
  obtain ⟨t, ht, hf⟩ := few_is l hl
  refine ⟨l.length + 300, ?_⟩
  unfold joistlaw09_RootsBack.f
  rw [small_is _ (by omega), hf _ (by omega)]
  simp only [Option.bind_some]
  cases t with
  | false => rfl
  | true =>
    have h40 := ht rfl
    rw [if_pos rfl, bytes_is l hl _ (by omega), Right_is l hl _ (by omega)]
    simp only [Option.bind_some]
    by_cases h : roots_right l = true
    · rw [if_pos h, h]
      simp only [if_true]
      rw [if_neg (by decide), read_back l h _ (by omega)]
      simp only [Option.bind_some, if_true]
      rw [Same_is l hl _ (by omega)]
      simp only [Option.bind_some, if_true]
      exact back0 b _ (by omega)
    · have h2 : roots_right l = false := by simpa using h
      rw [if_neg h, h2, if_neg (by decide), if_neg (by decide)]
      exact back0 b _ (by omega)
end Go.Proofs.YtlhemachmidoaaaDoor.Pure
