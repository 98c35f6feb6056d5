/- What names.Bytes, bytes.TrimRight of zeros and names.Read return. -/
import Derived.Test.YtlhemachmidoaaaDoorEn
import Derived.Test.YtlhemachmidoaaaDoorP12
import Derived.Lib.BufferWrite
import Derived.Laws.CopyOwn
namespace Go.Proofs.YtlhemachmidoaaaDoor.P
open Go.RowKit Go.Proofs.YtlhemachmidoaaaDoorW.PrintWords Go.Proofs.YtlhemachmidoaaaDoorW.PrintLast Go.Proofs.YtlhemachmidoaaaDoorW.PrintMore
set_option linter.unusedVariables false
set_option linter.unusedSimpArgs false

/-! ### a copy from a string -/
theorem wpList_copy_str {P : Program} {w : World} {ops : Array Oper} {rest : List Oper} {o : Oper} {a : Act} {Q : Exit → Act → World → Prop} (hgd : o.guard = none) (d s : Operand) (dT sT : TypeId)
    (ho : o.op = .call { callee := .builtin .copy, args := #[d, s], argTypes := #[dT, sT] }) (elem : TypeId) (hu : P.underlying dT = some (.slice elem)) (hsz : (P.info? elem).map (·.size) = some 1)
    (g dLen dCap : Nat) (t : ByteArray) (hd : a.eval d = .slice (some ⟨g, 0, none⟩) dLen dCap) (hs : a.eval s = .string t) (cur : Array Value) (ty : TypeId) (hg : w.heap[g]? = some (.cells cur ty (0, 0))) (hle : t.size ≤ dLen) (hfit : t.size ≤ cur.size)
    (h : wpList P ops Q rest (a.put o.dst (goInt t.size)) (w.setRow g (Lib.byteCells t.data.toList ++ cur.toList.drop t.size).toArray)) : wpList P ops Q (o :: rest) a w := by
  refine wpList_plain hgd fun K hK => ?_
  have hrun := Lib.run_copy_row_string (P := P) w dT sT o.type elem g 0 dLen dCap t cur ty hu hsz hg hle (by omega)
  rw [List.take_zero, List.nil_append, Nat.zero_add] at hrun
  unfold Oper.wp
  simp [execOp, ho, resolve, invoke, builtin, hd, hs, hrun, Result.andThen]
  exact hK _ _ h
/-! ### names.Bytes: function 16 -/
def numsOf (s : ByteArray) : List Int := s.data.toList.map fun b => (b.toNat : Int)
def pad16 (s : ByteArray) : List Int := numsOf s ++ List.replicate (16 - s.size) 0
def names_Bytes.f (a0 : ByteArray) : Option (List Int × Int) := some (if a0.size = 0 ∨ names_right a0 = true then (pad16 a0, 0) else ([], 3))
theorem right_size {s : ByteArray} (h : names_right s = true) : s.size ≠ 0 ∧ s.size ≤ 16 := by
  unfold names_right at h
  simp only [Bool.and_eq_true, decide_eq_true_eq] at h
  exact h.2
theorem numsOf_length (s : ByteArray) : (numsOf s).length = s.size := by
  unfold numsOf
  rw [List.length_map, ← Lib.size_eq]
theorem encs_numsOf (s : ByteArray) : Lib.byteCells s.data.toList = encs (Value.int .u8) (numsOf s) := by
  unfold Lib.byteCells numsOf encs
  rw [List.map_map]
  rfl
theorem string_empty {s : ByteArray} (h : s.size = 0) : s.toList = [] := by
  rw [ByteArray.toList_eq]
  exact List.eq_nil_of_length_eq_zero (by rw [Array.length_toList]; exact h)
theorem string_full {s : ByteArray} (h : s.size ≠ 0) : s.toList ≠ [] := by
  intro he
  rw [ByteArray.toList_eq] at he
  have h2 := congrArg List.length he
  rw [Array.length_toList] at h2
  exact h h2
theorem pad_row {W : World} {base g cap : Nat} {cur : Array Value} {s : ByteArray} {ok : Nat → Prop} (hb : base ≤ g) (hg : W.heap[g]? = some (.cells (Lib.byteCells s.data.toList ++ cur.toList.drop s.size).toArray 5 (0, 0))) (hs : s.size ≤ 16) (hc : 16 ≤ cap) (hm : cap ≤ maxLen) (hcs : cur.size = cap)
    (hcur : cur.toList.take 16 = encs (Value.int .u8) (List.replicate 16 0)) (hok : ∀ k, ok k) : Kd.R (Kd.int .u8) 5 W base ok (.slice (some ⟨g, 0, none⟩) 16 cap) (pad16 s) := by
  have hlen : (pad16 s).length = 16 := by unfold pad16; rw [List.length_append, numsOf_length, List.length_replicate]; omega
  refine Kd.R_of_own ?_ (fun k _ => hok k)
  refine ⟨by rw [encs_length, hlen], .inr ⟨g, cap, _, by rw [hlen], hb, hg, by omega, hm, ?_, ?_⟩⟩
  · simp [Lib.byteCells_length, ← Lib.size_eq]
    omega
  · rw [hlen]
    have h1 : (Lib.byteCells s.data.toList).length = s.size := by rw [Lib.byteCells_length, ← Lib.size_eq]
    simp only [Nat.mul_one]
    rw [List.take_append, h1, List.take_of_length_le (by omega)]
    unfold pad16
    rw [encs_append, ← encs_numsOf]
    congr 1
    rw [← List.drop_take, hcur]
    unfold encs
    rw [List.map_replicate, List.map_replicate, List.drop_replicate]
theorem size5 : (Tryd.prog.info? 5).map (·.size) = some 1 := by kernel_rfl
set_option maxRecDepth 100000 in
theorem names_Bytes.calls (a0 : ByteArray) (r1 : List Int) (r2 : Int) (w : World) (h : names_Bytes.f a0 = some (r1, r2)) :
    Calls Tryd.prog 16 #[.string a0] w fun e w' => ∃ v0_ : Value, e = .returned (.tuple #[v0_, .int .i64 r2]) ∧ Kd.R (Kd.int .u8) 5 w' w.heap.size (fun _ => True) v0_ r1 ∧ Below w.heap.size w w' := by
  unfold names_Bytes.f at h
  have H := Option.some.inj h
  clear h
  by_cases hz : a0.size = 0
  · rw [if_pos (Or.inl hz)] at H
    obtain ⟨rfl, rfl⟩ := Prod.mk.inj H
    clear H
    have e1 := string_empty hz
    have e2 : (a0.toList == ([] : List UInt8)) = true := beq_iff_eq.mpr e1
    have e3 : (a0.toList != ([] : List UInt8)) = false := bne_eq_false_iff_eq.mpr e1
    have e4 : a0.toList.isEmpty = true := by rw [e1]; rfl
    have HZ := Aside0.mk hz
    clear hz
    go_enter Tryd.func16, Tryd.ntmps16
    go_wp2_with (first | ((with_reducible refine gate_dst (N := 12) rfl ?_); refine Kd.R_make (Kd.int .u8) w.heap.size 5 rfl (N := 12) rfl 25 _ _ rfl 16 rfl rfl Tryd.underlying25 (.int .u8 0) 1 info5 rfl (by decide) (by omega) 0 (ok := fun _ => True) (okp := fun _ => True) rfl (fun _ hk => hk) trivial (by omega) (by omega) (Below.refl _ _) (Nat.le_refl _) ?_; intro v131 w7 ho8 hb hg_ hnew_; clear hg_ hnew_; rcases (Kd.own_of_R ho8).2 with ⟨_, hno⟩ | ⟨g7, cap7, cur7, rfl, hg7, hh7, hc7, hm7, hs7, ht7⟩; exact absurd hno (by decide); have A7 := Aside0.mk hg7; have B7 := Aside0.mk hh7; have C7 := Aside0.mk (show 16 ≤ cap7 by rw [List.length_replicate] at hc7; exact hc7); have D7 := Aside0.mk hm7; have E7 := Aside0.mk hs7; have F7 := Aside0.mk ht7; have G7 := Aside0.mk hb; clear ho8 hb hg7 hh7 hc7 hm7 hs7 ht7) | ((with_reducible refine gate_builtin (b := .copy) (xs := #[.tmp 13, .tmp 14]) rfl ?_); refine wpList_copy_str rfl (.tmp 13) (.tmp 14) 25 9 rfl 5 Tryd.underlying25 size5 g7 16 cap7 a0 rfl rfl cur7 5 B7.out (by have := HZ.out; omega) (by have := HZ.out; have := E7.out; have := C7.out; omega) ?_))
    go_ret2
    exact ⟨_, rfl, pad_row A7.out (setRow_heap _ _ _ _ _ _ B7.out) (by have := HZ.out; omega) C7.out D7.out (by have := E7.out; omega) (by have := F7.out; rwa [List.length_replicate, Nat.mul_one] at this) (fun _ => trivial), below_setRow G7.out A7.out _⟩
  · have e1 := string_full hz
    have e2 : (a0.toList == ([] : List UInt8)) = false := beq_eq_false_iff_ne.mpr e1
    have e3 : (a0.toList != ([] : List UInt8)) = true := bne_iff_ne.mpr e1
    have e4 : a0.toList.isEmpty = false := by
      cases hc : a0.toList with
      | nil => exact absurd hc e1
      | cons _ _ => rfl
    clear e1
    cases hn : names_right a0 with
    | true =>
      rw [if_pos (Or.inr hn)] at H
      obtain ⟨rfl, rfl⟩ := Prod.mk.inj H
      clear H
      have HZ := Aside0.mk (right_size hn)
      have HN := Aside0.mk (show names_Right.f a0 = some true by unfold names_Right.f; rw [hn])
      clear hz hn
      go_enter Tryd.func16, Tryd.ntmps16
      go_wp2_with (first | (go_at_call 11; refine (names_Right.calls a0 true _ HN.out).mono ?_; rintro e w' ⟨rfl, hb1⟩; have HB1 := Aside0.mk hb1; clear hb1) | ((with_reducible refine gate_dst (N := 12) rfl ?_); refine Kd.R_make (Kd.int .u8) w.heap.size 5 rfl (N := 12) rfl 25 _ _ rfl 16 rfl rfl Tryd.underlying25 (.int .u8 0) 1 info5 rfl (by decide) (by omega) 0 (ok := fun _ => True) (okp := fun _ => True) rfl (fun _ hk => hk) trivial (by omega) (by omega) HB1.out (below_size HB1.out) ?_; intro v131 w7 ho8 hb hg_ hnew_; clear hg_ hnew_; rcases (Kd.own_of_R ho8).2 with ⟨_, hno⟩ | ⟨g7, cap7, cur7, rfl, hg7, hh7, hc7, hm7, hs7, ht7⟩; exact absurd hno (by decide); have A7 := Aside0.mk hg7; have B7 := Aside0.mk hh7; have C7 := Aside0.mk (show 16 ≤ cap7 by rw [List.length_replicate] at hc7; exact hc7); have D7 := Aside0.mk hm7; have E7 := Aside0.mk hs7; have F7 := Aside0.mk ht7; have G7 := Aside0.mk hb; clear ho8 hb hg7 hh7 hc7 hm7 hs7 ht7) | ((with_reducible refine gate_builtin (b := .copy) (xs := #[.tmp 13, .tmp 14]) rfl ?_); refine wpList_copy_str rfl (.tmp 13) (.tmp 14) 25 9 rfl 5 Tryd.underlying25 size5 g7 16 cap7 a0 rfl rfl cur7 5 B7.out (by have := HZ.out; omega) (by have := HZ.out; have := E7.out; have := C7.out; omega) ?_))
      go_ret2
      exact ⟨_, rfl, pad_row A7.out (setRow_heap _ _ _ _ _ _ B7.out) (by have := HZ.out; omega) C7.out D7.out (by have := E7.out; omega) (by have := F7.out; rwa [List.length_replicate, Nat.mul_one] at this) (fun _ => trivial), below_setRow G7.out A7.out _⟩
    | false =>
      rw [if_neg (by rw [hn]; simp [hz])] at H
      obtain ⟨rfl, rfl⟩ := Prod.mk.inj H
      clear H
      have HN := Aside0.mk (show names_Right.f a0 = some false by unfold names_Right.f; rw [hn])
      clear hz hn
      go_enter Tryd.func16, Tryd.ntmps16
      go_wp2_with (go_at_call 11; refine (names_Right.calls a0 false _ HN.out).mono ?_; rintro e w' ⟨rfl, hb1⟩; have HB1 := Aside0.mk hb1; clear hb1)
      go_ret2
      exact ⟨_, rfl, Kd.R_nil _ _ _ _ _, HB1.out⟩
/-! ### bytes.TrimRight with "\x00": function 32 -/
def trim_of (l : List Int) : List Int := (l.reverse.dropWhile (· == 0)).reverse
theorem trim_snoc (l : List Int) (x : Int) : trim_of (l ++ [x]) = if x = 0 then trim_of l else l ++ [x] := by
  unfold trim_of
  rw [List.reverse_append, List.reverse_singleton, List.singleton_append, List.dropWhile_cons]
  by_cases h : x = 0
  · rw [if_pos (beq_iff_eq.2 h), if_pos h]
  · rw [if_neg (by simpa using h), if_neg h, List.reverse_cons, List.reverse_reverse]
theorem wrap_fit {n : Int} (h0 : -9223372036854775808 ≤ n) (h1 : n ≤ 9223372036854775807) : wrap64 n = n := by unfold wrap64; omega
theorem trim_from : ∀ (n : Nat) (l : List Int) (k : Nat), l.length = n → n < k → n ≤ 9223372036854775807 → bytes_trimRightByte.l0 k l 0 = some (trim_of l) := by
  intro n
  induction n with
  | zero =>
    intro l k hl hk _
    obtain ⟨k, rfl⟩ : ∃ m, k = m + 1 := ⟨k - 1, by omega⟩
    obtain rfl := List.eq_nil_of_length_eq_zero hl
    simp only [bytes_trimRightByte.l0]
    rw [if_neg (by simp)]
    rfl
  | succ n ih =>
    intro l k hl hk hm
    obtain ⟨k, rfl⟩ : ∃ m, k = m + 1 := ⟨k - 1, by omega⟩
    obtain ⟨l, x, rfl⟩ : ∃ l' x, l = l' ++ [x] := ⟨l.dropLast, l.getLast (by intro h; rw [h] at hl; cases hl), (List.dropLast_concat_getLast _).symm⟩
    rw [List.length_append, List.length_singleton] at hl
    have hw : wrap64 (((l ++ [x]).length : Int) - 1) = (l.length : Int) := by
      rw [List.length_append, List.length_singleton, wrap_fit (n := (((l.length + 1 : Nat) : Int)) - 1) (by omega) (by omega)]
      omega
    simp only [bytes_trimRightByte.l0]
    rw [hw, if_pos (by rw [List.length_append, List.length_singleton]; omega), if_pos (by omega), if_pos (by rw [List.length_append, List.length_singleton]; omega), trim_snoc]
    have hrd : rd (l ++ [x]) (l.length : Int) = x := by
      unfold rd
      simp
    rw [hrd]
    by_cases h0 : x = 0
    · rw [if_pos h0, if_pos h0, if_pos (by rw [List.length_append, List.length_singleton]; omega), Int.toNat_natCast, List.take_left']
      · exact ih l k (by omega) (by omega) (by omega)
      · rfl
    · rw [if_neg h0, if_neg h0]
theorem trim_is (l : List Int) (h : l.length ≤ 9223372036854775807) : bytes_trimRightByte.f (l.length + 1) l 0 = some (trim_of l) := trim_from l.length l _ rfl (by omega) h
set_option maxRecDepth 100000 in
theorem bytes_TrimRight0.calls (A0 : Option Addr) (c0 : Nat) (l0 : List Int) (w : World) (hr0 : Kd.C (Kd.int .u8) w A0 l0.length l0) (hc0 : l0.length ≤ c0) :
    Calls Tryd.prog 32 #[.slice A0 l0.length c0, .string ⟨#[0]⟩] w fun e w' => ∃ A c, e = .returned (.slice A (trim_of l0).length c) ∧ Kd.C (Kd.int .u8) w' A (trim_of l0).length (trim_of l0) ∧ Below w.heap.size w w' := by
  have hV : Kd.V (Kd.int .u8) 5 w w.heap.size (fun k => k < w.heap.size) (.slice A0 l0.length c0) l0 := Kd.V_mk hc0 (Kd.C_F (Kd.heap_int .u8) hr0)
  have hmax := Kd.C_max hr0
  have HV := Aside0.mk hV
  have HR := Aside0.mk hr0
  have HM := Aside0.mk hmax
  clear hV hr0 hmax
  by_cases hz : l0.length = 0
  · obtain rfl := List.eq_nil_of_length_eq_zero hz
    clear hz
    go_enter Tryd.func32, Tryd.ntmps32
    go_wp2
    go_ret
    exact ⟨_, _, rfl, HR.out, Below.refl _ _⟩
  · have hz2 : ((l0.length : Int) == 0) = false := beq_eq_false_iff_ne.2 (by omega)
    have hz3 : (l0.length == 0) = false := beq_eq_false_iff_ne.2 hz
    go_enter Tryd.func32, Tryd.ntmps32
    go_wp2_with (go_at_call 48; refine (bytes_trimRightByte.calls (l0.length + 1) _ A0 c0 l0 0 _ _ HV.out (trim_is l0 HM.out)).mono ?_; rintro e w' ⟨v1, rfl, hv1, hb1⟩; obtain ⟨A1, c1, rfl⟩ := Kd.V_slice hv1; have HC1 := Aside0.mk (Kd.V_reads' hv1).2.2; have HB1 := Aside0.mk hb1; clear hv1 hb1)
    go_ret
    exact ⟨_, _, rfl, HC1.out, HB1.out⟩
/-! ### names.Read: function 17 -/
def read_of (l : List Int) : ByteArray × Bool := if l.length = 16 ∧ ((trim_of l).length = 0 ∨ names_right (strOfNums (trim_of l)) = true) then (strOfNums (trim_of l), true) else (⟨#[]⟩, false)
def names_Read.f (l0 : List Int) : Option (ByteArray × Bool) := some (read_of l0)
theorem trim_le (l : List Int) : (trim_of l).length ≤ l.length := by
  unfold trim_of
  rw [List.length_reverse]
  refine Nat.le_trans (List.dropWhile_suffix _).length_le ?_
  rw [List.length_reverse]
  exact Nat.le_refl _
set_option maxRecDepth 100000 in
theorem names_Read.calls (A0 : Option Addr) (c0 : Nat) (l0 : List Int) (r1 : ByteArray) (r2 : Bool) (w : World) (hr0 : Kd.C (Kd.int .u8) w A0 l0.length l0) (hc0 : l0.length ≤ c0) (h : names_Read.f l0 = some (r1, r2)) :
    Calls Tryd.prog 17 #[.slice A0 l0.length c0] w fun e w' => e = .returned (.tuple #[.string r1, .bool r2]) ∧ Below w.heap.size w w' := by
  unfold names_Read.f at h
  have H := Option.some.inj h
  clear h
  unfold read_of at H
  have hT := bytes_TrimRight0.calls A0 c0 l0 w hr0 hc0
  generalize trim_of l0 = t at H hT
  have HT := Aside0.mk hT
  have HR := Aside0.mk hr0
  clear hT hr0
  have hsz := strOfNums_size t
  by_cases h16 : l0.length = 16
  · have h1 : ((l0.length : Int) == 16) = true := beq_iff_eq.2 (by omega)
    have h2 : ((l0.length : Int) != 16) = false := bne_eq_false_iff_eq.2 (by omega)
    by_cases hz : t.length = 0
    · rw [if_pos ⟨h16, Or.inl hz⟩] at H
      obtain ⟨rfl, rfl⟩ := Prod.mk.inj H
      clear H
      have e1 := string_empty (s := strOfNums t) (by omega)
      have e2 : ((strOfNums t).toList == ([] : List UInt8)) = true := beq_iff_eq.mpr e1
      have e3 : ((strOfNums t).toList != ([] : List UInt8)) = false := bne_eq_false_iff_eq.mpr e1
      have e4 : (strOfNums t).toList.isEmpty = true := by rw [e1]; rfl
      clear hsz hz h16
      go_enter Tryd.func17, Tryd.ntmps17
      go_wp2_with (go_at_call 32; refine HT.out.mono ?_; rintro e w' ⟨A1, c1, rfl, hC1, hb1⟩; have hcv := Kd.C_string (P := Tryd.prog) (A := A1) (c := c1) Tryd.underlying25 Tryd.underlying5 Tryd.underlying9 hC1; have HB1 := Aside0.mk hb1; clear hC1 hb1)
      go_ret2
      exact ⟨rfl, HB1.out⟩
    · have e1 := string_full (s := strOfNums t) (by omega)
      have e2 : ((strOfNums t).toList == ([] : List UInt8)) = false := beq_eq_false_iff_ne.mpr e1
      have e3 : ((strOfNums t).toList != ([] : List UInt8)) = true := bne_iff_ne.mpr e1
      have e4 : (strOfNums t).toList.isEmpty = false := by
        cases hc : (strOfNums t).toList with
        | nil => exact absurd hc e1
        | cons _ _ => rfl
      clear e1 hsz
      cases hn : names_right (strOfNums t) with
      | true =>
        rw [if_pos ⟨h16, Or.inr hn⟩] at H
        obtain ⟨rfl, rfl⟩ := Prod.mk.inj H
        have HN := Aside0.mk (show names_Right.f (strOfNums t) = some true by unfold names_Right.f; rw [hn])
        clear H hn hz h16
        go_enter Tryd.func17, Tryd.ntmps17
        go_wp2_with (first | (go_at_call 32; refine HT.out.mono ?_; rintro e w' ⟨A1, c1, rfl, hC1, hb1⟩; have hcv := Kd.C_string (P := Tryd.prog) (A := A1) (c := c1) Tryd.underlying25 Tryd.underlying5 Tryd.underlying9 hC1; have HB1 := Aside0.mk hb1; clear hC1 hb1) | (go_at_call 11; refine (names_Right.calls _ true _ HN.out).mono ?_; rintro e w' ⟨rfl, hb1⟩; have HB2 := Aside0.mk hb1; clear hb1))
        go_ret2
        exact ⟨rfl, below_step HB1.out HB2.out⟩
      | false =>
        rw [if_neg (by rw [hn]; simp [hz])] at H
        obtain ⟨rfl, rfl⟩ := Prod.mk.inj H
        have HN := Aside0.mk (show names_Right.f (strOfNums t) = some false by unfold names_Right.f; rw [hn])
        clear H hn hz h16
        go_enter Tryd.func17, Tryd.ntmps17
        go_wp2_with (first | (go_at_call 32; refine HT.out.mono ?_; rintro e w' ⟨A1, c1, rfl, hC1, hb1⟩; have hcv := Kd.C_string (P := Tryd.prog) (A := A1) (c := c1) Tryd.underlying25 Tryd.underlying5 Tryd.underlying9 hC1; have HB1 := Aside0.mk hb1; clear hC1 hb1) | (go_at_call 11; refine (names_Right.calls _ false _ HN.out).mono ?_; rintro e w' ⟨rfl, hb1⟩; have HB2 := Aside0.mk hb1; clear hb1))
        go_ret2
        exact ⟨rfl, below_step HB1.out HB2.out⟩
  · rw [if_neg (fun hh => h16 hh.1)] at H
    obtain ⟨rfl, rfl⟩ := Prod.mk.inj H
    have h1 : ((l0.length : Int) == 16) = false := beq_eq_false_iff_ne.2 (by omega)
    have h2 : ((l0.length : Int) != 16) = true := bne_iff_ne.2 (by omega)
    have h3 : (l0.length == 16) = false := beq_eq_false_iff_ne.2 h16
    clear H hsz
    go_enter Tryd.func17, Tryd.ntmps17
    go_wp2_with (go_at_call 32; refine HT.out.mono ?_; rintro e w' ⟨A1, c1, rfl, hC1, hb1⟩; have hcv := Kd.C_string (P := Tryd.prog) (A := A1) (c := c1) Tryd.underlying25 Tryd.underlying5 Tryd.underlying9 hC1; have HB1 := Aside0.mk hb1; clear hC1 hb1)
    go_ret2
    exact ⟨rfl, HB1.out⟩
end Go.Proofs.YtlhemachmidoaaaDoor.P
