/- Roots in bytes, and back: plain lists. -/
import Derived.Test.YtlhemachmidoaaaDoorR7
import Derived.Test.YtlhemachmidoaaaDoorU3
import Derived.Test.YtlhemachmidoaaaDoorEw
import Derived.Test.YtlhemachmidoaaaDoorP14
import Derived.Test.YtlhemachmidoaaaDoorP9
namespace Go.Proofs.YtlhemachmidoaaaDoor.Pure
open Go.RowKit Go.Proofs.YtlhemachmidoaaaDoor.P Go.Proofs.YtlhemachmidoaaaDoor.Open Go.Proofs.YtlhemachmidoaaaDoorW.PrintWords Go.Proofs.YtlhemachmidoaaaDoorW.PrintLast
set_option linter.unusedVariables false
set_option linter.unusedSimpArgs false

theorem or_byte (m b : Nat) (hm : m < 2 ^ 50) (hb : b < 256) : Go.bits .or .i64 ((m * 256 : Nat) : Int) (b : Int) = ((m * 256 + b : Nat) : Int) := by
  have e : m * 256 ||| b = m * 256 + b := by
    have := Nat.shiftLeft_add_eq_or_of_lt (i := 8) (b := b) (by omega) m
    rw [Nat.shiftLeft_eq] at this
    exact this.symm
  unfold Go.bits
  simp only [BitVec.toNat_or]
  have h1 : (BitVec.ofInt IntKind.i64.bits ((m * 256 : Nat) : Int)).toNat = m * 256 := by
    rw [BitVec.toNat_ofInt]
    show (((m * 256 : Nat) : Int) % (2 ^ 64 : Nat)).toNat = m * 256
    omega
  have h2 : (BitVec.ofInt IntKind.i64.bits ((b : Nat) : Int)).toNat = b := by
    rw [BitVec.toNat_ofInt]
    show (((b : Nat) : Int) % (2 ^ 64 : Nat)).toNat = b
    omega
  rw [h1, h2, e, i64_w]
  exact wrap_in (by omega) (by omega)
theorem byteAt_nat (n j : Nat) : byteAt (n : Int) j = ((n / 2 ^ (8 * j) % 256 : Nat) : Int) := by
  unfold byteAt
  rw [Int.natCast_emod, Int.natCast_ediv, Int.natCast_pow]
  rfl
theorem w8_rd (n j : Nat) (h : j < 8) : rd (w8 (n : Int)) (j : Int) = ((n / 2 ^ (8 * j) % 256 : Nat) : Int) := by
  unfold rd w8
  rw [Int.toNat_natCast, List.getD_eq_getElem?_getD, List.getElem?_map, List.getElem?_range h]
  exact byteAt_nat n j
theorem read_loop (n : Nat) (hn : n < 2 ^ 40) : ∀ (d k i : Nat), i + d = 8 → d < k → words_read.l0 k (w8 (n : Int)) ((n / 2 ^ (8 * d) : Nat) : Int) (i : Int) = some ((n : Int), true) := by
  intro d
  induction d with
  | zero =>
    intro k i hi hk
    obtain ⟨k, rfl⟩ : ∃ m, k = m + 1 := ⟨k - 1, by omega⟩
    simp only [words_read.l0]
    rw [if_neg (by omega)]
    simp
  | succ d ih =>
    intro k i hi hk
    obtain ⟨k, rfl⟩ : ∃ m, k = m + 1 := ⟨k - 1, by omega⟩
    have hw : wrap64 (7 - (i : Int)) = (d : Int) := by rw [wrap_in (n := 7 - (i : Int)) (by omega) (by omega)]; omega
    have hlt : n / 2 ^ (8 * (d + 1)) ≤ n := Nat.div_le_self _ _
    have hdiv : n / 2 ^ (8 * (d + 1)) = n / 2 ^ (8 * d) / 256 := by
      rw [Nat.div_div_eq_div_mul, show 8 * (d + 1) = 8 * d + 8 by omega, Nat.pow_add]
    have hm : n / 2 ^ (8 * (d + 1)) * 256 + n / 2 ^ (8 * d) % 256 = n / 2 ^ (8 * d) := by
      rw [hdiv]
      omega
    have hwm : wrap64 (((n / 2 ^ (8 * (d + 1)) : Nat) : Int) * 256) = ((n / 2 ^ (8 * (d + 1)) * 256 : Nat) : Int) := by
      rw [wrap_in (n := ((n / 2 ^ (8 * (d + 1)) : Nat) : Int) * 256) (by omega) (by omega)]
      omega
    have hwb : wrap64 ((n / 2 ^ (8 * d) % 256 : Nat) : Int) = ((n / 2 ^ (8 * d) % 256 : Nat) : Int) := wrap_in (by omega) (by omega)
    simp only [words_read.l0]
    rw [if_pos (by omega), hw, if_pos (by omega), if_pos (by rw [w8_length]; omega), w8_rd n d (by omega), hwm, hwb, or_byte _ _ (by omega) (by omega), hm, wrap_in (n := (i : Int) + 1) (by omega) (by omega)]
    have e1 : ((i : Int) + 1) = ((i + 1 : Nat) : Int) := by omega
    rw [e1]
    exact ih k (i + 1) (by omega) (by omega)
theorem read_w8 (n : Nat) (hn : n < 2 ^ 40) (k : Nat) (hk : 9 ≤ k) : words_read.f k (w8 (n : Int)) = some ((n : Int), true) := by
  unfold words_read.f
  have h7 : rd (w8 (n : Int)) 7 = 0 := by
    have := w8_rd n 7 (by omega)
    rw [show n / 2 ^ (8 * 7) % 256 = 0 from by rw [Nat.div_eq_of_lt (by omega)]] at this
    exact this
  rw [w8_length, if_pos (by decide), h7, if_neg (by decide)]
  have := read_loop n hn 8 k 0 (by omega) (by omega)
  rw [Nat.div_eq_of_lt (by omega)] at this
  exact this
/-! ### roots in bytes -/
def codeOf (r : S56) : Int := if r.f0.toList = [] then 0 else r.f1.f0 * 65536 + r.f1.f1 + 1
def rec32 (r : S56) : List Int := pad16 r.f0 ++ (w8 (codeOf r) ++ w8 0)
def okR (r : S56) : Prop := root_zero r = true ∨ (names_right r.f0 = true ∧ handle_ok r.f1.f0 r.f1.f1 = true)
theorem list_empty {s : ByteArray} (h : s.toList = []) : s.size = 0 := by
  rw [ByteArray.toList_eq] at h
  have h2 := congrArg List.length h
  rw [Array.length_toList] at h2
  exact h2
structure EntryOk (r : S56) : Prop where
  name : r.f0.size = 0 ∨ names_right r.f0 = true
  lo : 0 ≤ codeOf r
  hi : codeOf r ≤ 2097152
  back : ∃ is, handle_Of.f (codeOf r) = some (r.f1.f0, r.f1.f1, is)
theorem entry_ok {r : S56} (h : okR r) : EntryOk r := by
  rcases h with h | ⟨h1, h2⟩
  · unfold root_zero at h
    rw [Bool.and_eq_true, Bool.and_eq_true, beq_iff_eq, beq_iff_eq] at h
    obtain ⟨h0, h1, h2⟩ := h
    have he := List.isEmpty_iff.1 h0
    have hc : codeOf r = 0 := by unfold codeOf; rw [if_pos he]
    refine ⟨Or.inl (list_empty he), by omega, by omega, false, ?_⟩
    rw [hc, h1, h2]
    rfl
  · have hne : r.f0.toList ≠ [] := string_full (right_size h1).1
    have hc : codeOf r = r.f1.f0 * 65536 + r.f1.f1 + 1 := by unfold codeOf; rw [if_neg hne]
    unfold handle_ok at h2
    have hh := of_decide_eq_true h2
    refine ⟨Or.inr h1, by omega, by omega, true, ?_⟩
    rw [hc]
    unfold handle_Of.f
    rw [if_neg (by omega), if_neg (by omega), wrap_in (n := r.f1.f0 * 65536 + r.f1.f1 + 1 - 1) (by omega) (by omega), Int.tdiv_eq_ediv_of_nonneg (by omega), Int.tmod_eq_emod_of_nonneg (by omega), wrap_in (n := (r.f1.f0 * 65536 + r.f1.f1 + 1 - 1) / 65536) (by omega) (by omega)]
    congr 2
    · omega
    · congr 1
      omega
theorem all_okR : ∀ (l pre : List S56), all_ok pre l = true → ∀ r ∈ l, okR r := by
  intro l
  induction l with
  | nil => intro pre _ r hr; cases hr
  | cons x t ih =>
    intro pre h r hr
    rw [all_ok, Bool.and_eq_true] at h
    rcases List.mem_cons.1 hr with rfl | hr
    · have := h.1
      unfold root_ok at this
      rw [Bool.or_eq_true, Bool.and_eq_true, Bool.and_eq_true] at this
      exact this.imp id (fun h => ⟨h.1, h.2.1⟩)
    · exact ih _ h.2 r hr
theorem rec32_length {r : S56} (h : EntryOk r) : (rec32 r).length = 32 := by
  have h16 : r.f0.size ≤ 16 := by
    rcases h.name with h | h
    · omega
    · exact (right_size h).2
  unfold rec32
  rw [List.length_append, List.length_append, pad_length h16, w8_length, w8_length]
def recs (l : List S56) : List Int := (l.map rec32).flatten
theorem recs_length : ∀ (l : List S56), (∀ r ∈ l, EntryOk r) → (recs l).length = 32 * l.length := by
  intro l
  induction l with
  | nil => intro _; rfl
  | cons x t ih =>
    intro h
    have := ih (fun r hr => h r (List.mem_cons_of_mem _ hr))
    unfold recs at *
    rw [List.map_cons, List.flatten_cons, List.length_append, this, rec32_length (h x List.mem_cons_self), List.length_cons]
    omega
theorem bytes_loop (l : List S56) (hl : l.length ≤ 100) (ho : ∀ r ∈ l, EntryOk r) (hh : ∀ r ∈ l, okR r) : ∀ (d k i : Nat) (acc : List Int), i + d = l.length → d < k → acc.length ≤ 32 * i → roots_Bytes.l0 k acc l (l.length : Int) i = some (acc ++ recs (l.drop i), 0) := by
  intro d
  induction d with
  | zero =>
    intro k i acc hi hk ha
    obtain ⟨k, rfl⟩ : ∃ m, k = m + 1 := ⟨k - 1, by omega⟩
    simp only [roots_Bytes.l0]
    rw [if_neg (by omega), List.drop_of_length_le (by omega)]
    unfold recs
    simp
  | succ d ih =>
    intro k i acc hi hk ha
    obtain ⟨k, rfl⟩ : ∃ m, k = m + 1 := ⟨k - 1, by omega⟩
    have hlt : i < l.length := by omega
    have hx : rd_T56 l i ∈ l := by
      rw [show rd_T56 l i = l[i] by unfold rd_T56; rw [Int.toNat_natCast, List.getD_eq_getElem?_getD, List.getElem?_eq_getElem hlt]; rfl]
      exact List.getElem_mem hlt
    rw [drop_rd hlt]
    simp only [roots_Bytes.l0]
    rw [if_pos (by omega), if_pos (by omega), if_pos (by omega), wrap_in (n := (i : Int) + 1) (by omega) (by omega)]
    have e1 : ((i : Int) + 1) = ((i + 1 : Nat) : Int) := by omega
    rw [e1]
    have hE := ho _ hx
    have hO := hh _ hx
    generalize rd_T56 l i = x at hE hO ⊢
    have h16 : (pad16 x.f0).length = 16 := pad_length (by
      rcases hE.name with h | h
      · omega
      · exact (right_size h).2)
    have fin : roots_Bytes.l0 k (acc ++ pad16 x.f0 ++ (w8 (codeOf x) ++ w8 0)) l (l.length : Int) ((i + 1 : Nat) : Int) = some (acc ++ recs (x :: l.drop (i + 1)), 0) := by
      rw [ih k (i + 1) _ (by omega) (by omega) (by rw [List.length_append, List.length_append, List.length_append, h16, w8_length, w8_length]; omega)]
      unfold recs
      rw [List.map_cons, List.flatten_cons]
      unfold rec32
      simp only [List.append_assoc]
    have hlo := hE.lo
    have hhi := hE.hi
    unfold names_Bytes.f
    rw [if_pos hE.name]
    by_cases he : x.f0.toList = []
    · have hc : codeOf x = 0 := by unfold codeOf; rw [if_pos he]
      rw [hc] at fin
      rw [if_pos he]
      unfold words_Of.f
      simp only [Option.bind_some]
      rw [if_pos (by omega)]
      simp only [Option.bind_some]
      rw [if_pos (by rw [h16]; omega), if_pos (by simp only [List.length_append, h16, w8_length]; omega)]
      exact fin
    · have hc : codeOf x = x.f1.f0 * 65536 + x.f1.f1 + 1 := by unfold codeOf; rw [if_neg he]
      have hk2 : handle_ok x.f1.f0 x.f1.f1 = true := by
        rcases hO with h | h
        · unfold root_zero at h
          rw [Bool.and_eq_true] at h
          exact absurd (List.isEmpty_iff.1 h.1) he
        · exact h.2
      have hh2 := hk2
      unfold handle_ok at hh2
      have hh3 := of_decide_eq_true hh2
      rw [if_neg he]
      unfold handle_Code.f
      rw [handle_f, hk2]
      simp only [Option.bind_some, if_true]
      rw [wrap_in (n := x.f1.f0 * 65536) (by omega) (by omega), wrap_in (n := x.f1.f0 * 65536 + x.f1.f1) (by omega) (by omega), wrap_in (n := x.f1.f0 * 65536 + x.f1.f1 + 1) (by omega) (by omega), ← hc]
      unfold words_Of.f
      simp only
      rw [if_pos (by omega)]
      simp only [Option.bind_some]
      rw [if_pos (by rw [h16]; omega), if_pos (by simp only [List.length_append, h16, w8_length]; omega)]
      exact fin
end Go.Proofs.YtlhemachmidoaaaDoor.Pure
