/- The document's bytes of roots, and its reading of them, are the program's. -/
import Derived.Test.YtlhemachmidoaaaDoorRa
import Derived.Test.YtlhemachmidoaaaDoorR6
import Derived.Test.YtlhemachmidoaaaDoorRc
import Derived.Test.YtlhemachmidoaaaDoorP14
import Derived.Test.YtlhemachmidoaaaDoorP15
import Derived.Test.YtlhemachmidoaaaDoorP16
import Derived.Test.YtlhemachmidoaaaDoorOpenT
namespace Go.Proofs.YtlhemachmidoaaaDoor.Pure
open Go.RowKit Go.Proofs.YtlhemachmidoaaaDoor.P Go.Proofs.YtlhemachmidoaaaDoor.Open Go.Proofs.YtlhemachmidoaaaDoorW.PrintWords Go.Proofs.YtlhemachmidoaaaDoorW.PrintLast
set_option linter.unusedVariables false
set_option linter.unusedSimpArgs false

theorem at_from (l : List S56) (s : ByteArray) (hl : l.length ≤ 140737488351232) : ∀ (d k i : Nat), i + d = l.length → d < k → NoneAhead l s i → joistref09_at.l0 k l s i = some (place_of l s) := by
  intro d
  induction d with
  | zero =>
    intro k i hi hk hn
    obtain ⟨k, rfl⟩ : ∃ m, k = m + 1 := ⟨k - 1, by omega⟩
    simp only [joistref09_at.l0]
    rw [if_neg (by omega), hn.done (by omega)]
  | succ d ih =>
    intro k i hi hk hn
    obtain ⟨k, rfl⟩ : ∃ m, k = m + 1 := ⟨k - 1, by omega⟩
    simp only [joistref09_at.l0]
    rw [if_pos (by omega), if_pos (by omega)]
    by_cases he : ((rd_T56 l i).f0).toList = s.toList
    · rw [if_pos he, hn.hit (by omega) (by unfold named; exact beq_iff_eq.2 he)]
    · rw [if_neg he, wrap_in (n := (i : Int) + 1) (by omega) (by omega)]
      have e1 : ((i : Int) + 1) = ((i + 1 : Nat) : Int) := by omega
      rw [e1]
      exact ih k (i + 1) (by omega) (by omega) (hn.next (by omega) (by unfold named; exact beq_eq_false_iff_ne.2 he))
theorem at_is (l : List S56) (s : ByteArray) (hl : l.length ≤ 140737488351232) (k : Nat) (hk : l.length < k) : joistref09_at.f k l s = some (place_of l s) :=
  at_from l s hl l.length k 0 (by omega) hk ⟨by omega, by simp⟩
theorem handle_f' (a b : Int) : joistref07_Right.f a b = some (handle_ok a b) := by
  rw [← handle_f]
  unfold joistref07_Right.f handle_Right.f
  have : decide (b ≤ 65535) = decide (b < 65536) := decide_eq_decide.2 (by omega)
  rw [this]
theorem DRight_from (l : List S56) (hl : l.length ≤ 140737488351232) : ∀ (d k i : Nat), i + d = l.length → d + l.length + 40 ≤ k → joistref09_Right.l0 k l i 0 0 = some (all_ok (l.take i) (l.drop i) && len_ok l.length) := by
  intro d
  induction d with
  | zero =>
    intro k i hi hk
    obtain ⟨k, rfl⟩ : ∃ m, k = m + 1 := ⟨k - 1, by omega⟩
    simp only [joistref09_Right.l0]
    rw [if_neg (by omega), List.drop_of_length_le (by omega)]
    simp only [all_ok, Bool.true_and]
    unfold len_ok
    by_cases h : 2 ≤ l.length ∧ l.length ≤ 8 ∧ l.length % 2 = 0
    · rw [if_pos (by omega), if_pos (by omega), decide_eq_true h]
      exact congrArg some (beq_iff_eq.2 (by omega))
    · rw [decide_eq_false h]
      split
      · split
        · exact congrArg some (beq_eq_false_iff_ne.2 (by omega))
        · rfl
      · rfl
  | succ d ih =>
    intro k i hi hk
    obtain ⟨k, rfl⟩ : ∃ m, k = m + 1 := ⟨k - 1, by omega⟩
    have hlt : i < l.length := by omega
    have hN := ih k (i + 1) (by omega) (by omega)
    rw [take_rd hlt] at hN
    rw [drop_rd hlt]
    simp only [all_ok]
    simp only [joistref09_Right.l0]
    rw [if_pos (by omega), if_pos (by omega), wrap_in (n := (i : Int) + 1) (by omega) (by omega)]
    have e1 : ((i : Int) + 1) = ((i + 1 : Nat) : Int) := by omega
    rw [e1, hN]
    generalize hxx : rd_T56 l i = x
    generalize all_ok (l.take i ++ [x]) (l.drop (i + 1)) = tail
    rw [names_is x.f0 k (by omega), handle_f', Int.toNat_natCast, at_is (l.take i) x.f0 (by rw [List.length_take]; omega) k (by rw [List.length_take]; omega)]
    unfold root_ok root_zero names_Right.f
    simp only [Option.bind_some, Int.toNat_natCast]
    by_cases he : x.f0.toList = []
    · rw [if_pos he, names_empty _ he, he]
      simp only [List.isEmpty_nil, Bool.true_and, Bool.false_and, Bool.or_false]
      cases x.f1.f0 == 0 with
      | false => simp
      | true =>
        cases x.f1.f1 == 0 with
        | false => simp
        | true => simp
    · rw [if_neg he, List.isEmpty_eq_false_iff.2 he, if_pos (show (i : Int) ≤ l.length by omega)]
      cases names_right x.f0 with
      | false => simp
      | true =>
        cases handle_ok x.f1.f0 x.f1.f1 with
        | false => simp
        | true =>
          by_cases hp : place_of (l.take i) x.f0 < 0
          · have : ¬ place_of (l.take i) x.f0 ≥ 0 := by omega
            simp [hp, this]
          · have : place_of (l.take i) x.f0 ≥ 0 := by omega
            simp [hp, this]
theorem DRight_is (l : List S56) (hl : l.length ≤ 140737488351232) (k : Nat) (hk : 2 * l.length + 40 ≤ k) : joistref09_Right.f k l = some (roots_right l) :=
  DRight_from l hl l.length k 0 (by omega) (by omega)
/-! ### Words -/
theorem ref01_loop (n : Nat) (hn : n < 2 ^ 62) : ∀ (d k i : Nat), i + d = 8 → d < k → joistref01_Bytes.l0 k ((n / 2 ^ (8 * i) : Nat) : Int) ((List.range i).map (byteAt (n : Int))) i = some (w8 (n : Int)) := by
  intro d
  induction d with
  | zero =>
    intro k i hi hk
    obtain rfl : i = 8 := by omega
    obtain ⟨k, rfl⟩ : ∃ m, k = m + 1 := ⟨k - 1, by omega⟩
    simp only [joistref01_Bytes.l0]
    rw [if_neg (by omega)]
    rfl
  | succ d ih =>
    intro k i hi hk
    obtain ⟨k, rfl⟩ : ∃ m, k = m + 1 := ⟨k - 1, by omega⟩
    have hlt : n / 2 ^ (8 * i) ≤ n := Nat.div_le_self _ _
    have hdiv : n / 2 ^ (8 * i) / 256 = n / 2 ^ (8 * (i + 1)) := by
      rw [Nat.div_div_eq_div_mul, show 8 * (i + 1) = 8 * i + 8 by omega, Nat.pow_add]
    have hn2 := ih k (i + 1) (by omega) (by omega)
    rw [List.range_succ, List.map_append, List.map_singleton, byteAt_nat] at hn2
    simp only [joistref01_Bytes.l0]
    generalize n / 2 ^ (8 * i) = q at hlt hdiv hn2 ⊢
    generalize n / 2 ^ (8 * (i + 1)) = q2 at hdiv hn2
    rw [if_pos (by omega), if_pos (by rw [List.length_map, List.length_range]; omega), Int.tdiv_eq_ediv_of_nonneg (by omega), show (q : Int) / 256 = (q2 : Int) by omega]
    rw [wrap_in (n := (q2 : Int)) (by omega) (by omega), wrap_in (n := (i : Int) + 1) (by omega) (by omega)]
    have e1 : ((i : Int) + 1) = ((i + 1 : Nat) : Int) := by omega
    rw [e1, show (q : Int) % 256 = ((q % 256 : Nat) : Int) by omega]
    exact hn2
theorem ref01_is {a : Int} (h0 : 0 ≤ a) (h1 : a ≤ 4611686018427387903) (k : Nat) (hk : 9 ≤ k) : joistref01_Bytes.f k a = some (w8 a) := by
  obtain ⟨n, rfl⟩ : ∃ n : Nat, a = (n : Int) := ⟨a.toNat, by omega⟩
  have := ref01_loop n (by omega) 8 k 0 (by omega) (by omega)
  rw [show n / 2 ^ (8 * 0) = n from Nat.div_one n] at this
  exact this
theorem refOf_is {a : Int} (h0 : 0 ≤ a) (h1 : a ≤ 4611686018427387903) (k : Nat) (hk : 12 ≤ k) : joistref01_Of.f k [a, 0] = some (w8 a ++ w8 0, 0) := by
  obtain ⟨k, rfl⟩ : ∃ m, k = m + 3 := ⟨k - 3, by omega⟩
  have r0 : rd [a, 0] 0 = a := rfl
  have r1 : rd [a, 0] 1 = 0 := rfl
  have e1 : wrap64 ((0 : Int) + 1) = 1 := by rw [wrap_in (by omega) (by omega)]; rfl
  have e2 : wrap64 ((1 : Int) + 1) = 2 := by rw [wrap_in (by omega) (by omega)]; rfl
  have hlen : (([a, 0] : List Int).length : Int) = 2 := rfl
  unfold joistref01_Of.f
  simp only [joistref01_Of.l0]
  rw [hlen, if_pos (by omega), if_pos (by omega), r0, if_neg (by omega), if_neg (by omega), ref01_is h0 h1 _ (by omega)]
  simp only [Option.bind_some]
  rw [if_pos (by rw [w8_length]; simp), e1, if_pos (by omega), if_pos (by omega), r1, if_neg (by omega), if_neg (by omega), ref01_is (by omega) (by omega) _ (by omega)]
  simp only [Option.bind_some]
  rw [if_pos (by rw [List.length_append, w8_length, w8_length]; simp), e2, if_neg (by omega), List.nil_append]
/-! ### Bytes -/
theorem dbytes_loop (l : List S56) (hl : l.length ≤ 100) (ho : ∀ r ∈ l, EntryOk r) (hh : ∀ r ∈ l, okR r) : ∀ (d k i : Nat) (acc : List Int), i + d = l.length → d + 60 ≤ k → acc.length ≤ 32 * i → joistref09_Bytes.l0 k l acc i = some (acc ++ recs (l.drop i), 0) := by
  intro d
  induction d with
  | zero =>
    intro k i acc hi hk ha
    obtain ⟨k, rfl⟩ : ∃ m, k = m + 1 := ⟨k - 1, by omega⟩
    simp only [joistref09_Bytes.l0]
    rw [if_neg (by omega), List.drop_of_length_le (by omega)]
    unfold recs
    simp
  | succ d ih =>
    intro k i acc hi hk ha
    obtain ⟨k, rfl⟩ : ∃ m, k = m + 1 := ⟨k - 1, by omega⟩
    have hlt : i < l.length := by omega
    have hx : rd_T56 l i ∈ l := by
      rw [show rd_T56 l i = l[i] by unfold rd_T56; rw [Int.toNat_natCast, List.getD_eq_getElem?_getD, List.getElem?_eq_getElem hlt]; rfl]
      exact List.getElem_mem hlt
    rw [drop_rd hlt]
    simp only [joistref09_Bytes.l0]
    rw [if_pos (by omega), if_pos (by omega), wrap_in (n := (i : Int) + 1) (by omega) (by omega)]
    have e1 : ((i : Int) + 1) = ((i + 1 : Nat) : Int) := by omega
    rw [e1]
    have hE := ho _ hx
    have hO := hh _ hx
    generalize rd_T56 l i = x at hE hO ⊢
    have h16 : (pad16 x.f0).length = 16 := pad_length (by
      rcases hE.name with h | h
      · omega
      · exact (right_size h).2)
    have fin : joistref09_Bytes.l0 k l (acc ++ pad16 x.f0 ++ (w8 (codeOf x) ++ w8 0)) ((i + 1 : Nat) : Int) = some (acc ++ recs (x :: l.drop (i + 1)), 0) := by
      rw [ih k (i + 1) _ (by omega) (by omega) (by rw [List.length_append, List.length_append, List.length_append, h16, w8_length, w8_length]; omega)]
      unfold recs
      rw [List.map_cons, List.flatten_cons]
      unfold rec32
      simp only [List.append_assoc]
    have hlo := hE.lo
    have hhi := hE.hi
    rw [refBytes_is _ k (by omega)]
    unfold names_Bytes.f
    rw [if_pos hE.name]
    simp only [Option.bind_some]
    by_cases he : x.f0.toList = []
    · have hc : codeOf x = 0 := by unfold codeOf; rw [if_pos he]
      rw [hc] at fin
      rw [if_pos he, refOf_is (by omega) (by omega) k (by omega)]
      simp only [Option.bind_some]
      rw [if_pos (by rw [h16]; omega), if_pos (by simp only [List.length_append, h16, w8_length]; omega)]
      exact fin
    · have hc : codeOf x = x.f1.f0 * 65536 + x.f1.f1 + 1 := by unfold codeOf; rw [if_neg he]
      have hk2 : handle_ok x.f1.f0 x.f1.f1 = true := by
        rcases hO with h | h
        · unfold root_zero at h
          rw [Bool.and_eq_true] at h
          exact absurd (List.isEmpty_iff.1 h.1) he
        · exact h.2
      have hh2 := hk2
      unfold handle_ok at hh2
      have hh3 := of_decide_eq_true hh2
      have hcode : joistref07_Code.f x.f1.f0 x.f1.f1 = some (codeOf x, 0) := by
        unfold joistref07_Code.f
        rw [handle_f', hk2]
        simp only [Option.bind_some, if_true]
        rw [wrap_in (n := x.f1.f0 * 65536) (by omega) (by omega), wrap_in (n := x.f1.f0 * 65536 + x.f1.f1) (by omega) (by omega), wrap_in (by omega) (by omega), hc]
      rw [if_neg he, hcode]
      simp only [Option.bind_some]
      rw [refOf_is hlo (by omega) k (by omega)]
      simp only [Option.bind_some]
      rw [if_pos (by rw [h16]; omega), if_pos (by simp only [List.length_append, h16, w8_length]; omega)]
      exact fin
theorem dbytes_is (l : List S56) (hl : l.length ≤ 140737488351232) (k : Nat) (hk : 2 * l.length + 100 ≤ k) : joistref09_Bytes.f k l = some (if roots_right l = true then (recs l, 0) else ([], 1)) := by
  unfold joistref09_Bytes.f
  rw [DRight_is l hl k (by omega)]
  simp only [Option.bind_some]
  by_cases h : roots_right l = true
  · obtain ⟨h1, h2, h3, _⟩ := right_entries h
    rw [if_pos h, if_pos h]
    have := dbytes_loop l (by omega) h2 h1 l.length k 0 [] (by omega) (by omega) (Nat.zero_le _)
    rw [List.drop_zero, List.nil_append] at this
    exact this
  · rw [if_neg h, if_neg h]
/-! ### Read -/
theorem or_byte2 (m b : Nat) (hm : m < 2 ^ 54) (hb : b < 256) : Go.bits .or .i64 ((m * 256 : Nat) : Int) (b : Int) = ((m * 256 + b : Nat) : Int) := by
  have e : m * 256 ||| b = m * 256 + b := by
    have := Nat.shiftLeft_add_eq_or_of_lt (i := 8) (b := b) (by omega) m
    rw [Nat.shiftLeft_eq] at this
    exact this.symm
  unfold Go.bits
  simp only [BitVec.toNat_or]
  have h1 : (BitVec.ofInt IntKind.i64.bits ((m * 256 : Nat) : Int)).toNat = m * 256 := by
    rw [BitVec.toNat_ofInt]
    show (((m * 256 : Nat) : Int) % (2 ^ 64 : Nat)).toNat = m * 256
    omega
  have h2 : (BitVec.ofInt IntKind.i64.bits ((b : Nat) : Int)).toNat = b := by
    rw [BitVec.toNat_ofInt]
    show (((b : Nat) : Int) % (2 ^ 64 : Nat)).toNat = b
    omega
  rw [h1, h2, e, i64_w]
  exact wrap_in (by omega) (by omega)
theorem rd_in {l : List Int} (h : ∀ x ∈ l, 0 ≤ x ∧ x < 256) (i : Int) : 0 ≤ rd l i ∧ rd l i < 256 := by
  unfold rd
  rw [List.getD_eq_getElem?_getD]
  cases e : l[i.toNat]? with
  | none => exact ⟨Int.le_refl _, by decide⟩
  | some v => exact h v (List.mem_of_getElem? e)
theorem refw_nonneg {c : List Int} (h : ∀ x ∈ c, 0 ≤ x ∧ x < 256) : ∀ d, 0 ≤ refw c d
  | 0 => Int.le_refl _
  | d + 1 => by have := refw_nonneg h d; have := rd_in h (16 + 7 - (d : Int)); rw [refw]; omega
theorem refw_lt {c : List Int} (h : ∀ x ∈ c, 0 ≤ x ∧ x < 256) (h7 : rd c 23 < 64) : refw c 7 < 2 ^ 54 ∧ refw c 6 < 2 ^ 54 ∧ refw c 5 < 2 ^ 54 ∧ refw c 4 < 2 ^ 54 ∧ refw c 3 < 2 ^ 54 ∧ refw c 2 < 2 ^ 54 ∧ refw c 1 < 2 ^ 54 ∧ refw c 0 < 2 ^ 54 := by
  have g1 := rd_in h (16 + 7 - ((1 : Nat) : Int))
  have g2 := rd_in h (16 + 7 - ((2 : Nat) : Int))
  have g3 := rd_in h (16 + 7 - ((3 : Nat) : Int))
  have g4 := rd_in h (16 + 7 - ((4 : Nat) : Int))
  have g5 := rd_in h (16 + 7 - ((5 : Nat) : Int))
  have g6 := rd_in h (16 + 7 - ((6 : Nat) : Int))
  have e0 : refw c 0 = 0 := rfl
  have e1 : refw c 1 = refw c 0 * 256 + rd c 23 := rfl
  have e2 : refw c 2 = refw c 1 * 256 + rd c (16 + 7 - ((1 : Nat) : Int)) := rfl
  have e3 : refw c 3 = refw c 2 * 256 + rd c (16 + 7 - ((2 : Nat) : Int)) := rfl
  have e4 : refw c 4 = refw c 3 * 256 + rd c (16 + 7 - ((3 : Nat) : Int)) := rfl
  have e5 : refw c 5 = refw c 4 * 256 + rd c (16 + 7 - ((4 : Nat) : Int)) := rfl
  have e6 : refw c 6 = refw c 5 * 256 + rd c (16 + 7 - ((5 : Nat) : Int)) := rfl
  have e7 : refw c 7 = refw c 6 * 256 + rd c (16 + 7 - ((6 : Nat) : Int)) := rfl
  omega
theorem chunk_rd (c : List Int) (j : Nat) (h : j < 8) : rd ((c.drop 16).take 8) (j : Int) = rd c (16 + (j : Int)) := by
  unfold rd
  rw [Int.toNat_natCast, show ((16 : Int) + (j : Int)).toNat = 16 + j by omega, List.getD_eq_getElem?_getD, List.getD_eq_getElem?_getD, List.getElem?_take, if_pos h, List.getElem?_drop]
theorem chunk_loop (c : List Int) (hc : c.length = 32) (h : ∀ x ∈ c, 0 ≤ x ∧ x < 256) (h7 : rd c 23 < 64) : ∀ (d k i : Nat), i + d = 8 → d < k → words_read.l0 k ((c.drop 16).take 8) (refw c i) (i : Int) = some (refw c 8, true) := by
  have hlen : ((c.drop 16).take 8).length = 8 := by rw [List.length_take, List.length_drop]; omega
  have hlt := refw_lt h h7
  intro d
  induction d with
  | zero =>
    intro k i hi hk
    obtain rfl : i = 8 := by omega
    obtain ⟨k, rfl⟩ : ∃ m, k = m + 1 := ⟨k - 1, by omega⟩
    simp only [words_read.l0]
    rw [if_neg (by omega)]
  | succ d ih =>
    intro k i hi hk
    obtain ⟨k, rfl⟩ : ∃ m, k = m + 1 := ⟨k - 1, by omega⟩
    have hw : wrap64 (7 - (i : Int)) = (d : Int) := by rw [wrap_in (n := 7 - (i : Int)) (by omega) (by omega)]; omega
    have hr := rd_in h (16 + (d : Int))
    have hn := refw_nonneg h i
    have hm : refw c i < 2 ^ 54 := by
      obtain rfl | rfl | rfl | rfl | rfl | rfl | rfl | rfl : i = 0 ∨ i = 1 ∨ i = 2 ∨ i = 3 ∨ i = 4 ∨ i = 5 ∨ i = 6 ∨ i = 7 := by omega
      · exact hlt.2.2.2.2.2.2.2
      · exact hlt.2.2.2.2.2.2.1
      · exact hlt.2.2.2.2.2.1
      · exact hlt.2.2.2.2.1
      · exact hlt.2.2.2.1
      · exact hlt.2.2.1
      · exact hlt.2.1
      · exact hlt.1
    have hnext := ih k (i + 1) (by omega) (by omega)
    rw [show refw c (i + 1) = refw c i * 256 + rd c (16 + 7 - (i : Int)) from rfl, show (16 : Int) + 7 - (i : Int) = 16 + (d : Int) by omega] at hnext
    have hor : Go.bits .or .i64 (refw c i * 256) (rd c (16 + (d : Int))) = refw c i * 256 + rd c (16 + (d : Int)) := by
      have := or_byte2 (refw c i).toNat (rd c (16 + (d : Int))).toNat (by omega) (by omega)
      rw [show (((refw c i).toNat * 256 : Nat) : Int) = refw c i * 256 by omega, show ((rd c (16 + (d : Int))).toNat : Int) = rd c (16 + (d : Int)) by omega, show (((refw c i).toNat * 256 + (rd c (16 + (d : Int))).toNat : Nat) : Int) = refw c i * 256 + rd c (16 + (d : Int)) by omega] at this
      exact this
    simp only [words_read.l0]
    rw [if_pos (by omega), hw, if_pos (by omega), if_pos (by omega), chunk_rd c d (by omega), wrap_in (n := refw c i * 256) (by omega) (by omega), wrap_in (n := rd c (16 + (d : Int))) (by omega) (by omega), hor, wrap_in (n := (i : Int) + 1) (by omega) (by omega)]
    have e1 : ((i : Int) + 1) = ((i + 1 : Nat) : Int) := by omega
    rw [e1]
    exact hnext
theorem get_same (c : List Int) (hc : c.length = 32) (h : ∀ x ∈ c, 0 ≤ x ∧ x < 256) (k : Nat) (hk : 9 ≤ k) : joistref01_Get.f c 2 = words_Get.f k (c.drop 16) 0 := by
  have hlen : ((c.drop 16).take 8).length = 8 := by rw [List.length_take, List.length_drop]; omega
  unfold joistref01_Get.f words_Get.f words_read.f
  have e7 : rd ((c.drop 16).take 8) 7 = rd c 23 := chunk_rd c 7 (by omega)
  rw [if_pos ⟨rfl, hc, h⟩, if_pos (show (0 : Int) = 0 ∧ (c.drop 16).length = 16 from ⟨rfl, by rw [List.length_drop]; omega⟩), if_pos (show (7 : Int) < (((c.drop 16).take 8).length : Int) by omega), e7]
  by_cases h7 : rd c 23 ≥ 64
  · rw [if_pos h7, if_pos h7]
  · rw [if_neg h7, if_neg h7]
    exact (chunk_loop c hc h (by omega) 8 k 0 (by omega) (by omega)).symm
theorem of_same (a : Int) : joistref07_Of.f a = handle_Of.f a := rfl
theorem dread_loop (b : List Int) (hb : b.length ≤ 256) (hby : ∀ x ∈ b, 0 ≤ x ∧ x < 256) : ∀ (d p : Nat) (acc : List S56) (k : Nat), p + 32 * d = b.length → acc.length + d ≤ 8 → d + 200 ≤ k → joistref09_Read.l0 k b acc p = roots_Read.l0 k b acc (b.drop p) := by
  intro d
  induction d with
  | zero =>
    intro p acc k hp ha hk
    obtain ⟨k, rfl⟩ : ∃ m, k = m + 1 := ⟨k - 1, by omega⟩
    simp only [joistref09_Read.l0, roots_Read.l0]
    rw [if_neg (by omega), if_neg (by rw [List.length_drop]; omega), bytes_is acc (by omega) k (by omega), dbytes_is acc (by omega) k (by omega)]
    simp only [Option.bind_some]
    unfold bytes_Equal.f
    simp only [Option.bind_some]
    by_cases h : (if roots_right acc = true then (recs acc, (0 : Int)) else ([], 1)).2 = 0
    · rw [if_pos h, if_pos h]
      by_cases he : (strOfNums (if roots_right acc = true then (recs acc, (0 : Int)) else ([], 1)).1).toList = (strOfNums b).toList
      · rw [if_pos he, if_pos (beq_iff_eq.2 he)]
      · rw [if_neg he, if_neg (by rw [beq_iff_eq]; exact he)]
    · rw [if_neg h, if_neg h]
  | succ d ih =>
    intro p acc k hp ha hk
    obtain ⟨k, rfl⟩ : ∃ m, k = m + 1 := ⟨k - 1, by omega⟩
    have w16 : wrap64 ((p : Int) + 16) = ((p + 16 : Nat) : Int) := by rw [wrap_in (by omega) (by omega)]; omega
    have w32 : wrap64 ((p : Int) + 32) = ((p + 32 : Nat) : Int) := by rw [wrap_in (by omega) (by omega)]; omega
    have t16 : (b.take (p + 16)).drop p = (b.drop p).take 16 := by rw [List.drop_take]; congr 1; omega
    have t32 : (b.take (p + 32)).drop p = (b.drop p).take 32 := by rw [List.drop_take]; congr 1; omega
    have hc : ((b.drop p).take 32).length = 32 := by rw [List.length_take, List.length_drop]; omega
    have hcb : ∀ x ∈ (b.drop p).take 32, 0 ≤ x ∧ x < 256 := fun x hx => hby x (List.mem_of_mem_drop (List.mem_of_mem_take hx))
    have hg := get_same _ hc hcb k (by omega)
    simp only [joistref09_Read.l0, roots_Read.l0]
    rw [w16, w32, if_pos (by omega), if_pos (by omega), if_pos (by omega), if_pos (by omega), Int.toNat_natCast, Int.toNat_natCast, Int.toNat_natCast, t16, t32, refRead_is _ k (by omega), hg]
    rw [if_pos (show ((b.drop p).length : Int) > 0 by rw [List.length_drop]; omega), if_pos (show (16 : Int) ≤ ((b.drop p).length : Int) by rw [List.length_drop]; omega)]
    unfold names_Read.f
    simp only [Option.bind_some]
    rw [if_pos (by omega), if_pos (by omega), if_pos (by decide), if_pos (show (32 : Int) ≤ ((b.drop p).length : Int) by rw [List.length_drop]; omega)]
    cases words_Get.f k (((b.drop p).take 32).drop 16) 0 with
    | none => rfl
    | some v =>
      simp only [Option.bind_some]
      rw [of_same]
      cases handle_Of.f v.1 with
      | none => rfl
      | some q =>
        simp only [Option.bind_some]
        rw [if_pos (by omega), if_pos (by omega), List.drop_drop]
        exact ih (p + 32) _ k (by omega) (by rw [List.length_append, List.length_singleton]; omega) (by omega)
theorem dread_is (b : List Int) (hby : ∀ x ∈ b, 0 ≤ x ∧ x < 256) (k : Nat) (hk : 300 ≤ k) : joistref09_Read.f k b = roots_Read.f k b := by
  obtain ⟨k, rfl⟩ : ∃ m, k = m + 1 := ⟨k - 1, by omega⟩
  unfold joistref09_Read.f roots_Read.f
  by_cases h : ((b.length : Int) % 32) = 0
  · rw [if_pos h, if_pos h]
    by_cases h2 : (b.length : Int) > 256
    · rw [decide_eq_true h2]
      simp only [joistref09_Read.j0, roots_Read.j0, if_true]
    · rw [decide_eq_false h2]
      simp only [joistref09_Read.j0, roots_Read.j0, Bool.false_eq_true, if_false]
      have := dread_loop b (by omega) hby (b.length / 32) 0 [] k (by omega) (by rw [List.length_nil]; omega) (by omega)
      rw [List.drop_zero] at this
      exact this
  · rw [if_neg h, if_neg h]
    simp only [joistref09_Read.j0, roots_Read.j0, if_true]
end Go.Proofs.YtlhemachmidoaaaDoor.Pure
/- RootsCodes over what the walk says, as the row asks. -/
namespace Go.Proofs.YtlhemachmidoaaaDoor.Pure
open Go.RowKit Go.Proofs.YtlhemachmidoaaaDoor.P Go.Proofs.YtlhemachmidoaaaDoor.Open Go.Proofs.YtlhemachmidoaaaDoorW.PrintWords Go.Proofs.YtlhemachmidoaaaDoorW.PrintLast
set_option linter.unusedVariables false

theorem RootsCodes (l0 : List (S56)) (l1 : List Int) (w0 : (l0.length ≤ maxLen ∧ l0.length * 32 ≤ 140737488351232 ∧ ∀ x ∈ l0, ok56 x)) (w1 : (l1.length ≤ maxLen ∧ l1.length * 1 ≤ 140737488351232 ∧ ∀ x ∈ l1, (Lit.int .u8 x).wf = true)) : ∃ k, joistlaw09_RootsCodes.f k l0 l1 = some true := by
  have hl : l0.length ≤ 140737488351232 := by have := w0.2.1; omega
  have hby : ∀ x ∈ l1, 0 ≤ x ∧ x < 256 := fun x hx => by
    have h := w1.2.2 x hx
    unfold Lit.wf at h
    rw [Bool.and_eq_true, decide_eq_true_eq, decide_eq_true_eq] at h
    have h1 : IntKind.u8.min = 0 := rfl
    have h2 : IntKind.u8.max = 255 := rfl
    omega
  obtain ⟨b, _, hf⟩ := few_is l0 hl
  obtain ⟨K, hK⟩ : ∃ K : Nat, K = 2 * l0.length + 1000 := ⟨_, rfl⟩
  refine ⟨K, ?_⟩
  unfold joistlaw09_RootsCodes.f
  rw [small_is K (by omega), hf K (by omega)]
  simp only [Option.bind_some]
  cases b with
  | false => rfl
  | true =>
    obtain ⟨m, is, hm, hr⟩ := read_all l1 K (by omega)
    have hml : m.length ≤ 8 := by
      cases is with
      | true => exact (hr.1 rfl).1
      | false => rw [hr.2 rfl]; exact Nat.zero_le _
    rw [if_pos rfl, bytes_is l0 hl K (by omega), hm, dbytes_is l0 hl K (by omega), dread_is l1 hby K (by omega), hm]
    simp only [Option.bind_some]
    rw [Same_is m (by omega) K (by omega)]
    simp only [Option.bind_some]
    rw [if_pos ⟨trivial, trivial, trivial, trivial, by have := w1.2.1; omega⟩]
end Go.Proofs.YtlhemachmidoaaaDoor.Pure
