/- joistlaw01.Lent and joistlaw01.Kept: bytes with spare room, in which a mark stands. -/
import Derived.Test.YtlhemachmidoaaaDoorEf
import Derived.Deep.QuietTactic
import Derived.BigQuiet
import Derived.Test.YtlhemachmidoaaaDoorP7
import Derived.Test.YtlhemachmidoaaaDoorP9
import Derived.Test.YtlhemachmidoaaaDoorP17
import Derived.Test.YtlhemachmidoaaaDoorP15
import Derived.Test.YtlhemachmidoaaaDoorP16
import Derived.Test.YtlhemachmidoaaaDoorP18
namespace Go.Proofs.YtlhemachmidoaaaDoor.P
open Go.RowKit Go.Proofs.YtlhemachmidoaaaDoorW.PrintWords Go.Proofs.YtlhemachmidoaaaDoorW.PrintLast Go.Proofs.YtlhemachmidoaaaDoorW.PrintMore
set_option linter.unusedVariables false
set_option linter.unusedSimpArgs false

theorem wpList_make_len {P : Program} {w : World} {ops : Array Oper} {rest : List Oper} {o : Oper} {a : Act} {Q : Exit → Act → World → Prop}
    (hg : o.guard = none) (l c : Operand) (t : TypeId) (hop : o.op = Op.makeSlice t l c) (e : TypeId) (i : TypeInfo) (z : Value) (h1 : P.underlying t = some (.slice e)) (h2 : P.info? e = some i) (h3 : i.zero = some z)
    (L C : Nat) (hl : a.eval l = .int .i64 L) (hc : a.eval c = .int .i64 C) (hlc : L ≤ C) (hb : (i.bytes : Int) * C ≤ 281474976710656) (h63 : (C : Int) ≤ 9223372036854775807)
    (hK : wpList P ops Q rest (a.put o.dst (.slice (some ⟨w.heap.size, 0, none⟩) L C)) (w.alloc (.cells (madeCells z.cells (C * i.size)) e))) : wpList P ops Q (o :: rest) a w := by
  refine wpList_plain hg fun K hK' => ?_
  have hrun := run_make (P := P) (w := w) t e i z h1 h2 h3 .i64 .i64 (L : Int) (C : Int) (by omega) (by omega) hb h63
  simp only [Int.toNat_natCast] at hrun
  unfold Oper.wp
  simp [execOp, hop, hl, hc, hrun, Result.andThen]
  exact hK' _ _ hK
def lentRow (l : List Int) : Array Value := (encs (Value.int .u8) (l ++ [77])).toArray
set_option maxRecDepth 100000 in
theorem joistlaw01_Lent.calls (A0 : Option Addr) (c0 : Nat) (l0 : List Int) (w : World) (hr0 : Kd.C (Kd.int .u8) w A0 l0.length l0) (hc0 : l0.length ≤ c0) (hl : l0.length ≤ 140737488351232) :
    Calls Tryd.prog 15 #[.slice A0 l0.length c0] w fun e w' => ∃ g, e = .returned (.slice (some ⟨g, 0, none⟩) l0.length (l0.length + 1)) ∧ w.heap.size ≤ g ∧ w'.heap[g]? = some (.cells (lentRow l0) 5 (0, 0)) ∧ Below w.heap.size w w' := by
  obtain ⟨i0, hi0, hz0, hs0, hb0⟩ := info_parts info5
  have hw64 : wrap64 ((l0.length : Int) + 1) = ((l0.length + 1 : Nat) : Int) := (wrap_fit (by omega) (by omega)).trans (by omega)
  have HR := Aside0.mk hr0
  clear hr0
  go_enter Tryd.func15, Tryd.ntmps15
  have hcur : (madeCells (Value.int .u8 0).cells ((l0.length + 1) * i0.size)).size = l0.length + 1 := by rw [size_madeCells, hs0, Nat.mul_one]
  generalize hcc : madeCells (Value.int .u8 0).cells ((l0.length + 1) * i0.size) = cur0 at hcur
  have hC := Kd.reads_of_C (enc := Value.int .u8) (d := (0 : Int)) (h1 := fun _ => rfl) (Kd.C_alloc HR.out (.cells cur0 5))
  have HC := Aside0.mk hC
  have HLN := Aside0.mk (show cur0.toList.length = l0.length + 1 by rw [← hcur]; exact Array.length_toList)
  have HCC := Aside0.mk hcc
  have hnew : (w.alloc (.cells cur0 5)).heap[w.heap.size]? = some (.cells cur0.toList.toArray 5 (0, 0)) := by
    rw [Array.toArray_toList]
    exact Array.getElem?_push_size
  have HNEW := Aside0.mk hnew
  clear hC hcur hcc hnew
  go_wp2_with (first | ((with_reducible refine gate_dst (N := 9) rfl ?_); refine wpList_make_len rfl _ _ 25 rfl 5 i0 (.int .u8 0) Tryd.underlying25 hi0 hz0 l0.length (l0.length + 1) rfl ?hc (by omega) (by rw [hb0]; omega) (by omega) ?_; (case hc => first | exact congrArg (Value.int .i64) hw64 | (show Value.int .i64 ((l0.length : Int) + 1) = _; exact congrArg _ (by omega))); rw [HCC.out]) | ((with_reducible refine gate_builtin (b := .copy) (xs := #[.tmp 10, .tmp 11]) rfl ?_); go_loud ((refine wpList_copy_splice rfl (.tmp 10) (.tmp 11) 25 25 rfl 5 Tryd.underlying25 size5 _ _ _ _ _ _ rfl rfl w.heap.size 0 cur0.toList 5 HNEW.out (encs (Value.int .u8) l0) ?hn ?hpos ?hfit ?h1 w.heap.size w (below_alloc (Below.refl _ _) _) (Nat.le_refl _) ?_); (case hn => rw [encs_length]; exact (Nat.min_self _).symm); (case hfit => rw [encs_length, Nat.zero_add, HLN.out]; omega); (case h1 => intro v hv; unfold encs at hv; obtain ⟨x, _, rfl⟩ := List.mem_map.1 hv; rfl); (case hpos => intro hp; rw [encs_length] at hp; obtain ⟨ad, rfl, hc⟩ := HC.out.2.2 hp; refine ⟨rfl, ad, rfl, fun j v hj => ?_⟩; unfold encs at hj; rw [List.getElem?_map, Option.map_eq_some_iff] at hj; obtain ⟨x, hx, rfl⟩ := hj; obtain ⟨hlj, hx2⟩ := List.getElem?_eq_some_iff.1 hx; rw [hc j hlj, List.getD_eq_getElem?_getD, hx]; rfl); intro w2 HG2 hB2; obtain ⟨row7, hrow7⟩ : ∃ r, r = (splice cur0.toList 0 (encs (Value.int .u8) l0)) := ⟨_, rfl⟩; have hg7 : w2.heap[w.heap.size]? = some (.cells row7.toArray 5 (0, 0)) := (by rw [hrow7]; exact HG2); have hl7 : row7.length = l0.length + 1 := (by rw [hrow7, length_splice _ _ _ (by rw [encs_length, Nat.zero_add, HLN.out]; omega)]; exact HLN.out); have hc7 := blk_cell hg7 l0.length; obtain ⟨x7, hx7⟩ : ∃ x, row7[l0.length]? = some x := ⟨_, List.getElem?_eq_getElem (by omega)⟩; rw [List.getElem?_toArray, hx7] at hc7; clear hx7; have hf7 := blk_frozen hg7 l0.length; have HG7 := Aside0.mk hg7; have HR7 := Aside0.mk hrow7; have HB7 := Aside0.mk hB2; have HL7 := Aside0.mk hl7; clear HG2 hB2 hg7 hrow7 hl7)))
  go_ret
  refine ⟨w.heap.size, rfl, Nat.le_refl _, ?_, HB7.out.setCell (Nat.le_refl _) _⟩
  rw [blk_set HG7.out l0.length (.int .u8 77)]
  have hd : (cur0.toList.drop l0.length).length = 1 := by rw [List.length_drop, HLN.out]; omega
  obtain ⟨z, hz⟩ := List.length_eq_one_iff.1 hd
  have e : row7 = encs (Value.int .u8) l0 ++ [z] := by
    rw [HR7.out]
    unfold splice
    rw [List.take_zero, List.nil_append, Nat.zero_add, encs_length, hz]
  have e2 : row7.toArray.setIfInBounds l0.length (.int .u8 77) = lentRow l0 := by
    unfold lentRow
    apply Array.ext'
    rw [e, List.setIfInBounds_toArray, encs_append, List.set_append_right _ _ (by rw [encs_length]; exact Nat.le_refl _), encs_length, Nat.sub_self]
    rfl
  rw [e2]
theorem lent_cell {w : World} {g : Nat} {l : List Int} (h : w.heap[g]? = some (.cells (lentRow l) 5 (0, 0))) (j : Nat) (hj : j < l.length) : w.cell? ⟨g, j, none⟩ = some (.int .u8 (l.getD j 0)) := by
  rw [blk_cell h j]
  unfold lentRow
  rw [List.getElem?_toArray, encs_append, List.getElem?_append_left (by rw [encs_length]; exact hj)]
  exact encs_get l j hj
theorem lent_mark {w : World} {g : Nat} {l : List Int} (h : w.heap[g]? = some (.cells (lentRow l) 5 (0, 0))) : w.cell? ⟨g, l.length, none⟩ = some (.int .u8 77) := by
  rw [blk_cell h l.length]
  unfold lentRow
  rw [List.getElem?_toArray, encs_append, List.getElem?_append_right (by rw [encs_length]; exact Nat.le_refl _), encs_length, Nat.sub_self]
  rfl
theorem lent_C {w : World} {g : Nat} {l : List Int} (h : w.heap[g]? = some (.cells (lentRow l) 5 (0, 0))) (hl : l.length ≤ 140737488351232) : Kd.C (Kd.int .u8) w (some ⟨g, 0, none⟩) l.length l :=
  Kd.C_of_reads (d := (0 : Int)) ⟨rfl, by omega, fun _ => ⟨⟨g, 0, none⟩, rfl, fun j hj => by rw [add_plain]; exact lent_cell h j hj⟩⟩
set_option maxRecDepth 100000 in
theorem joistlaw01_Kept.calls (g : Nat) (A1 : Option Addr) (c1 : Nat) (l : List Int) (w : World) (hg : w.heap[g]? = some (.cells (lentRow l) 5 (0, 0))) (hr1 : Kd.C (Kd.int .u8) w A1 l.length l) (hc1 : l.length ≤ c1) (hl : l.length ≤ 140737488351232) :
    Calls Tryd.prog 18 #[.slice (some ⟨g, 0, none⟩) l.length (l.length + 1), .slice A1 l.length c1] w fun e w' => e = .returned (.bool true) ∧ Drawn0 w w' := by
  have hw64 : wrap64 ((l.length : Int) + 1) = ((l.length + 1 : Nat) : Int) := (wrap_fit (by omega) (by omega)).trans (by omega)
  have hcv0 := Kd.C_string (P := Tryd.prog) (A := some ⟨g, 0, none⟩) (c := l.length + 1) Tryd.underlying25 Tryd.underlying5 Tryd.underlying9 (lent_C hg hl)
  have hcv1 := Kd.C_string (P := Tryd.prog) (A := A1) (c := c1) Tryd.underlying25 Tryd.underlying5 Tryd.underlying9 hr1
  have hm := lent_mark hg
  have hf := blk_frozen hg l.length
  clear hr1 hg
  go_enter Tryd.func18, Tryd.ntmps18
  go_wp2
  go_ret
  exact ⟨by first | rfl | (simp; done) | (simp [*]; done), by repeat (first | exact Drawn0.refl _ | apply Drawn0.step)⟩
end Go.Proofs.YtlhemachmidoaaaDoor.P
/- joistlaw01.Owned: rows of bytes that lie apart may be written over; true. -/
namespace Go.Proofs.YtlhemachmidoaaaDoor.P
open Go.RowKit Go.Proofs.YtlhemachmidoaaaDoorW.PrintWords Go.Proofs.YtlhemachmidoaaaDoorW.PrintLast Go.Proofs.YtlhemachmidoaaaDoorW.PrintMore
set_option linter.unusedVariables false
set_option linter.unusedSimpArgs false

def fillv (i : Nat) : Int := (i : Int) + 1
def RowW (w : World) (v : Value) (c : Option Int) : Prop :=
  v = .slice none 0 0 ∨ ∃ (g n cap : Nat) (cur : Array Value), v = .slice (some ⟨g, 0, none⟩) n cap ∧ n ≤ cap ∧ cap ≤ maxLen ∧ w.heap[g]? = some (.cells cur 5 (0, 0)) ∧ cur.size = cap ∧ ∀ x, c = some x → ∀ k, k < cap → cur[k]? = some (.int .u8 x)
structure RowsW (w : World) (q : Nat) (vs : List Value) (i : Nat) : Prop where
  at_ : w.heap[q]? = some (.cells vs.toArray 25 (0, 0))
  row : ∀ j (hj : j < vs.length), RowW w vs[j] (if j < i then some (fillv j) else none)
def ApartW (vs : List Value) : Prop := ∀ j (hj : j < vs.length) k (hk : k < vs.length), j ≠ k → ∀ g, vs[j].ownBlock = some g → vs[k].ownBlock ≠ some g
theorem RowW.other {w w' : World} {v : Value} {c : Option Int} (h : RowW w v c) {g : Nat} (hk : ∀ b, b ≠ g → w'.heap[b]? = w.heap[b]?) (hne : v.ownBlock ≠ some g) : RowW w' v c := by
  rcases h with h | ⟨g1, n, cap, cur, rfl, h1, h2, h3, h4, h5⟩
  · exact .inl h
  · refine .inr ⟨g1, n, cap, cur, rfl, h1, h2, ?_, h4, h5⟩
    rw [hk g1 (fun e => hne (by rw [e]; rfl))]
    exact h3
theorem RowW.same {w w' : World} {v : Value} {c : Option Int} (h : RowW w v c) (hk : w'.heap = w.heap) : RowW w' v c := by
  unfold RowW at *
  rw [hk]
  exact h
theorem RowsW.same {w w' : World} {q i : Nat} {vs : List Value} (h : RowsW w q vs i) (hk : w'.heap = w.heap) : RowsW w' q vs i :=
  ⟨by rw [hk]; exact h.at_, fun j hj => (h.row j hj).same hk⟩
/-- Row i was filled, the others stand. -/
theorem RowsW.next {w w' : World} {q i : Nat} {vs : List Value} (h : RowsW w q vs i) (ha : ApartW vs) (hi : i < vs.length) {g n cap : Nat} {cur : Array Value} (hv : vs[i] = .slice (some ⟨g, 0, none⟩) n cap) (hn : n ≤ cap) (hm : cap ≤ maxLen)
    (hg : w'.heap[g]? = some (.cells cur 5 (0, 0))) (hs : cur.size = cap) (hf : ∀ k, k < cap → cur[k]? = some (.int .u8 (fillv i))) (hq : q ≠ g) (hk : ∀ b, b ≠ g → w'.heap[b]? = w.heap[b]?) : RowsW w' q vs (i + 1) := by
  refine ⟨by rw [hk q hq]; exact h.at_, fun j hj => ?_⟩
  by_cases hji : j = i
  · subst hji
    rw [if_pos (by omega)]
    refine .inr ⟨g, n, cap, cur, hv, hn, hm, hg, hs, fun x hx k hkk => ?_⟩
    obtain rfl := Option.some.inj hx
    exact hf k hkk
  · have h1 : (if j < i + 1 then some (fillv j) else none) = (if j < i then some (fillv j) else none) := by
      by_cases hlt : j < i
      · rw [if_pos hlt, if_pos (by omega)]
      · rw [if_neg hlt, if_neg (by omega)]
    rw [h1]
    exact (h.row j hj).other hk (ha i hi j hj (fun e => hji e.symm) g (by rw [hv]; rfl))
theorem RowsW.skip {w : World} {q i : Nat} {vs : List Value} (h : RowsW w q vs i) (hi : i < vs.length) (hv : vs[i] = .slice none 0 0) : RowsW w q vs (i + 1) := by
  refine ⟨h.at_, fun j hj => ?_⟩
  by_cases hji : j = i
  · subst hji
    exact .inl hv
  · have h1 : (if j < i + 1 then some (fillv j) else none) = (if j < i then some (fillv j) else none) := by
      by_cases hlt : j < i
      · rw [if_pos hlt, if_pos (by omega)]
      · rw [if_neg hlt, if_neg (by omega)]
    rw [h1]
    exact h.row j hj
theorem below_drewn {B : Nat} {a w : World} (h : Below B a w) (n : Nat) : Below B a (w.drewN n) := h.trans (pw_below_drewN (Below.refl _ _) n)
theorem underlying34 : Tryd.prog.underlying 34 = some (.slice 25) := by kernel_rfl
set_option maxRecDepth 100000 in
set_option maxHeartbeats 2000000 in
theorem joistlaw01_Owned.calls (q : Nat) (vs : List Value) (base : Nat) (w0 w : World) (hr : RowsW w q vs 0) (ha : ApartW vs) (hl : vs.length ≤ 100) (hb : Below base w0 w) (hge : ∀ j (hj : j < vs.length) g, vs[j].ownBlock = some g → base ≤ g) :
    Calls Tryd.prog 21 #[.slice (some ⟨q, 0, none⟩) vs.length vs.length] w fun e w' => e = .returned (.bool true) ∧ Below base w0 w' := by
  have HR := Aside0.mk hr
  have HB := Aside0.mk hb
  have HA := Aside0.mk ha
  have HGE := Aside0.mk hge
  clear hr hb ha hge
  go_enter Tryd.func21, Tryd.ntmps21
  go_wp2
  go_loopw [3] (fun v3 wr => ∃ i : Nat, v3 = .int .i64 i ∧ i ≤ vs.length ∧ Aside0 (RowsW wr q vs i) ∧ Aside0 (Below base w0 wr)) (fun v3 wr => match v3 with | .int _ n => vs.length - n.toNat | _ => 0)
  case atStart => exact ⟨0, rfl, Nat.zero_le _, HR, HB⟩
  case round =>
    obtain ⟨i, rfl, hi, HRi, HBi⟩ := hrel
    obtain ⟨wo, hwo⟩ : ∃ x, x = wr := ⟨wr, rfl⟩
    subst hwo
    by_cases hlt : i < vs.length
    · have b1 : decide ((i : Int) < (vs.length : Int)) = true := decide_eq_true (by omega)
      have hcell : wo.cell? ⟨q, i, none⟩ = some vs[i] := by
        have := blk_cell HRi.out.at_ i
        simpa [hlt] using this
      have hfr := blk_frozen HRi.out.at_ i
      have b2 : decide (i < vs.length) = true := decide_eq_true hlt
      have hw64 : IntKind.i64.wrap ((i : Int) + 1) = ((i + 1 : Nat) : Int) := by rw [i64_w]; exact (wrap_fit (by omega) (by omega)).trans (by omega)
      have hw65 : wrap64 ((i : Int) + 1) = ((i + 1 : Nat) : Int) := (wrap_fit (by omega) (by omega)).trans (by omega)
      rcases HRi.out.row i hlt with hv | ⟨g, n, cap, cur, hv, hn, hm, hg, hs, _⟩
      · rw [hv] at hcell
        have HV := Aside0.mk hv
        clear hv
        go_wp2
        go_quiet (fail)
        go_wp2
        go_loopw [5] (fun v5 w' => v5 = .int .i64 0 ∧ Aside0 (w'.heap = wo.heap) ∧ Aside0 (Below base w0 w')) (fun v5 w' => 0)
        case atStart => exact ⟨rfl, ⟨rfl⟩, ⟨below_drewn HBi.out _⟩⟩
        case round =>
          obtain ⟨rfl, HE, HB2⟩ := hrel
          go_wp2
          go_roundw
          case rel =>
            refine ⟨i + 1, congrArg _ (by omega), hlt, ⟨?_⟩, HB2⟩
            exact (HRi.out.skip hlt HV.out).same HE.out
          case measure =>
            show vs.length - ((i : Int) + 1).toNat < vs.length - (i : Int).toNat
            omega
      · rw [hv] at hcell
        have HV := Aside0.mk hv
        have HG := Aside0.mk hg
        have HSZ := Aside0.mk hs
        have HM := Aside0.mk hm
        have hge := HGE.out i hlt g (by rw [hv]; rfl)
        clear hv hg hs hm
        go_wp2
        go_quiet (fail)
        go_wp2
        go_loopw [5] (fun v5 w' => ∃ (k : Nat) (cur' : Array Value), v5 = .int .i64 k ∧ k ≤ cap ∧ Aside0 (w'.heap[g]? = some (.cells cur' 5 (0, 0))) ∧ Aside0 (cur'.size = cap) ∧ Aside0 (∀ j, j < k → cur'[j]? = some (.int .u8 (fillv i))) ∧ Aside0 (∀ b, b ≠ g → w'.heap[b]? = wo.heap[b]?) ∧ Aside0 (Below base w0 w')) (fun v5 w' => match v5 with | .int _ m => cap - m.toNat | _ => 0)
        case atStart => exact ⟨0, cur, rfl, Nat.zero_le _, ⟨HG.out⟩, HSZ, ⟨fun j hj => by omega⟩, ⟨fun _ _ => rfl⟩, ⟨below_drewn HBi.out _⟩⟩
        case round =>
          obtain ⟨k, cur', rfl, hk, HG2, HS2, HF2, HO2, HB2⟩ := hrel
          by_cases hkc : k < cap
          · have c1 : decide ((k : Int) < (cap : Int)) = true := decide_eq_true (by omega)
            have c2 : decide (k < cap) = true := decide_eq_true hkc
            have hcell2 : wr.cell? ⟨g, k, none⟩ = cur'[k]? := by
              have := blk_cell HG2.out k
              simpa using this
            rw [Array.getElem?_eq_getElem (by rw [HS2.out]; exact hkc)] at hcell2
            have hfr2 := blk_frozen HG2.out k
            have hkw : wrap64 ((k : Int) + 1) = ((k + 1 : Nat) : Int) := (wrap_fit (by have := HM.out; unfold maxLen at this; omega) (by have := HM.out; unfold maxLen at this; omega)).trans (by omega)
            go_wp2
            go_roundw
            case rel =>
              refine ⟨k + 1, cur'.setIfInBounds k (.int .u8 (fillv i)), congrArg _ hkw, hkc, ⟨?_⟩, ⟨?_⟩, ⟨?_⟩, ⟨?_⟩, ⟨?_⟩⟩
              · exact blk_set HG2.out k _
              · rw [Array.size_setIfInBounds]; exact HS2.out
              · intro j hj
                rw [Array.getElem?_setIfInBounds]
                by_cases hjk : k = j
                · rw [if_pos hjk, if_pos (by rw [HS2.out]; omega)]
                · rw [if_neg hjk]
                  exact HF2.out j (by omega)
              · intro b hb
                exact (Below.heap_setCell _ _ _ _ hb).trans (HO2.out b hb)
              · exact HB2.out.setCell hge _
            case measure =>
              show cap - (wrap64 ((k : Int) + 1)).toNat < cap - (k : Int).toNat
              rw [hkw]
              omega
          · have c1 : decide ((k : Int) < (cap : Int)) = false := decide_eq_false (by omega)
            have c2 : decide (k < cap) = false := decide_eq_false hkc
            go_wp2
            go_roundw
            case rel =>
              refine ⟨i + 1, congrArg _ (by omega), hlt, ⟨?_⟩, HB2⟩
              refine HRi.out.next HA.out hlt HV.out hn HM.out HG2.out HS2.out (fun j hj => HF2.out j (by omega)) ?_ HO2.out
              intro e
              have h1 := HRi.out.at_
              have h2 := HG.out
              rw [e, h2] at h1
              simp at h1
            case measure =>
              show vs.length - ((i : Int) + 1).toNat < vs.length - (i : Int).toNat
              omega
    · have hie : i = vs.length := by omega
      have b1 : decide ((i : Int) < (vs.length : Int)) = false := decide_eq_false (by omega)
      have b2 : decide (i < vs.length) = false := decide_eq_false hlt
      have HRF := Aside0.mk (show RowsW wo q vs vs.length by rw [← hie]; exact HRi.out)
      clear HRi
      go_wp2
      go_loopw [6] (fun v6 w' => ∃ i : Nat, v6 = .int .i64 i ∧ i ≤ vs.length ∧ Aside0 (w'.heap = wo.heap) ∧ Aside0 (Below base w0 w')) (fun v6 w' => match v6 with | .int _ n => vs.length - n.toNat | _ => 0)
      case atStart => exact ⟨0, rfl, Nat.zero_le _, ⟨rfl⟩, HBi⟩
      case round =>
        obtain ⟨i2, rfl, hi2, HE2, HB2⟩ := hrel
        have HR2 := Aside0.mk (HRF.out.same HE2.out)
        obtain ⟨wp, hwp⟩ : ∃ x, x = wr := ⟨wr, rfl⟩
        subst hwp
        by_cases hlt2 : i2 < vs.length
        · have d1 : decide ((i2 : Int) < (vs.length : Int)) = true := decide_eq_true (by omega)
          have d2 : decide (i2 < vs.length) = true := decide_eq_true hlt2
          have hcell : wp.cell? ⟨q, i2, none⟩ = some vs[i2] := by
            have := blk_cell HR2.out.at_ i2
            simpa [hlt2] using this
          have hfr := blk_frozen HR2.out.at_ i2
          rcases HR2.out.row i2 hlt2 with hv | ⟨g, n, cap, cur, hv, hn, hm, hg, hs, hf⟩
          · rw [hv] at hcell
            clear hv
            go_wp2
            go_quiet (fail)
            go_wp2
            go_loopw [8] (fun v8 w' => v8 = .int .i64 0 ∧ Aside0 (w'.heap = wp.heap) ∧ Aside0 (Below base w0 w')) (fun v8 w' => 0)
            case atStart => exact ⟨rfl, ⟨rfl⟩, ⟨below_drewn HB2.out _⟩⟩
            case round =>
              obtain ⟨rfl, HE3, HB3⟩ := hrel
              go_wp2
              go_roundw
              case rel => exact ⟨i2 + 1, congrArg _ (by omega), hlt2, ⟨HE3.out.trans HE2.out⟩, HB3⟩
              case measure =>
                show vs.length - ((i2 : Int) + 1).toNat < vs.length - (i2 : Int).toNat
                omega
          · rw [hv] at hcell
            have HG := Aside0.mk hg
            have HSZ := Aside0.mk hs
            have HM := Aside0.mk hm
            have HF := Aside0.mk (fun k hk => hf _ (if_pos hlt2) k hk)
            clear hv hg hs hm hf
            go_wp2
            go_quiet (fail)
            go_wp2
            go_loopw [8] (fun v8 w' => ∃ k : Nat, v8 = .int .i64 k ∧ k ≤ cap ∧ Aside0 (w'.heap = wp.heap) ∧ Aside0 (Below base w0 w')) (fun v8 w' => match v8 with | .int _ m => cap - m.toNat | _ => 0)
            case atStart => exact ⟨0, rfl, Nat.zero_le _, ⟨rfl⟩, ⟨below_drewn HB2.out _⟩⟩
            case round =>
              obtain ⟨k, rfl, hk, HE3, HB3⟩ := hrel
              by_cases hkc : k < cap
              · have c1 : decide ((k : Int) < (cap : Int)) = true := decide_eq_true (by omega)
                have c2 : decide (k < cap) = true := decide_eq_true hkc
                have hg3 : wr.heap[g]? = some (.cells cur 5 (0, 0)) := by rw [HE3.out]; exact HG.out
                have hcell2 : wr.cell? ⟨g, k, none⟩ = some (.int .u8 ((i2 : Int) + 1)) := by
                  have := blk_cell hg3 k
                  rw [HF.out k hkc] at this
                  exact this
                have hfr2 := blk_frozen hg3 k
                have hkw : wrap64 ((k : Int) + 1) = ((k + 1 : Nat) : Int) := (wrap_fit (by have := HM.out; unfold maxLen at this; omega) (by have := HM.out; unfold maxLen at this; omega)).trans (by omega)
                clear hg3
                go_wp2
                go_roundw
                case rel => exact ⟨k + 1, congrArg _ hkw, hkc, HE3, HB3⟩
                case measure =>
                  show cap - (wrap64 ((k : Int) + 1)).toNat < cap - (k : Int).toNat
                  rw [hkw]
                  omega
              · have c1 : decide ((k : Int) < (cap : Int)) = false := decide_eq_false (by omega)
                have c2 : decide (k < cap) = false := decide_eq_false hkc
                go_wp2
                go_roundw
                case rel => exact ⟨i2 + 1, congrArg _ (by omega), hlt2, ⟨HE3.out.trans HE2.out⟩, HB3⟩
                case measure =>
                  show vs.length - ((i2 : Int) + 1).toNat < vs.length - (i2 : Int).toNat
                  omega
        · have d1 : decide ((i2 : Int) < (vs.length : Int)) = false := decide_eq_false (by omega)
          have d2 : decide (i2 < vs.length) = false := decide_eq_false hlt2
          go_wp2
          go_ret
          exact ⟨rfl, HB2.out⟩
end Go.Proofs.YtlhemachmidoaaaDoor.P
/- The law RootsCodes, walked. -/
namespace Go.Proofs.YtlhemachmidoaaaDoor.P
open Go.RowKit Go.Proofs.YtlhemachmidoaaaDoorW.PrintWords Go.Proofs.YtlhemachmidoaaaDoorW.PrintLast Go.Proofs.YtlhemachmidoaaaDoorW.PrintMore
set_option linter.unusedVariables false
set_option linter.unusedSimpArgs false

theorem drawn_below {w w' : World} (h : Drawn0 w w') : Below w.heap.size w w' := by
  obtain ⟨nd, rfl⟩ := h
  exact pw_below_drewN (Below.refl _ _) nd
theorem row_of {w : World} {base : Nat} {v : Value} {xs : List Int} (h : Kd.R (Kd.int .u8) 5 w base (fun _ => True) v xs) : RowW w v none := by
  rcases (Kd.own_of_R h).2 with ⟨hv, _⟩ | ⟨g, cap, cur, hv, _, hg, hn, hm, hs, _⟩
  · exact .inl hv
  · exact .inr ⟨g, xs.length, cap, cur, hv, hn, hm, hg, by omega, fun x hx => by cases hx⟩
theorem row_lent {w : World} {g : Nat} {l : List Int} (h : w.heap[g]? = some (.cells (lentRow l) 5 (0, 0))) (hl : l.length ≤ 140737488351232) : RowW w (.slice (some ⟨g, 0, none⟩) l.length (l.length + 1)) none := by
  refine .inr ⟨g, l.length, l.length + 1, lentRow l, rfl, by omega, by unfold maxLen; omega, h, ?_, fun x hx => by cases hx⟩
  unfold lentRow
  rw [List.size_toArray, encs_length, List.length_append, List.length_singleton]
/-- The two rows that the law hands to Owned. -/
theorem two_rows {W : World} {base n2 : Nat} {vx vy : Value} {g : Nat} {l xs : List Int} (hx : Kd.R (Kd.int .u8) 5 W n2 (fun _ => True) vx xs) (hg : W.heap[g]? = some (.cells (lentRow l) 5 (0, 0))) (hl : l.length ≤ 140737488351232)
    (hgn : g < n2) (hb1 : base ≤ n2) (hb2 : base ≤ g) (hy : vy = .slice (some ⟨g, 0, none⟩) l.length (l.length + 1)) :
    RowsW (W.alloc (.cells #[vx, vy] 25)) W.heap.size [vx, vy] 0 ∧ ApartW [vx, vy] ∧ ∀ j (hj : j < [vx, vy].length) b, [vx, vy][j].ownBlock = some b → base ≤ b := by
  subst hy
  have hbx := Kd.R_base hx
  refine ⟨⟨Array.getElem?_push_size, fun j hj => ?_⟩, ?_, ?_⟩
  · rw [if_neg (by omega)]
    match j, hj with
    | 0, _ => exact row_of (Kd.R_alloc hx _)
    | 1, _ => exact row_lent (blk_alloc hg _) hl
  · intro j hj k hk hjk b hb hb2'
    match j, hj, k, hk, hjk with
    | 0, _, 1, _, _ =>
      have h1 := hbx b hb
      have h2 : some g = some b := hb2'
      have := Option.some.inj h2
      omega
    | 1, _, 0, _, _ =>
      have h1 := hbx b hb2'
      have h2 : some g = some b := hb
      have := Option.some.inj h2
      omega
    | 0, _, 0, _, h => exact h rfl
    | 1, _, 1, _, h => exact h rfl
  · intro j hj b hb
    match j, hj with
    | 0, _ => exact Nat.le_trans hb1 (hbx b hb)
    | 1, _ =>
      have h2 : some g = some b := hb
      rw [← Option.some.inj h2]
      exact hb2
theorem lent_V {w : World} {g base : Nat} {l : List Int} (h : w.heap[g]? = some (.cells (lentRow l) 5 (0, 0))) (hl : l.length ≤ 140737488351232) : Kd.V (Kd.int .u8) 5 w base (fun k_ => k_ = g) (.slice (some ⟨g, 0, none⟩) l.length (l.length + 1)) l :=
  Kd.V_mk (Nat.le_succ _) (fun W' hW => lent_C ((hW g rfl (blk_lt h)).trans h) hl)
def joistlaw09_RootsCodes.f (k : Nat) (l0 : List S56) (l1 : List Int) : Option Bool :=
  (joistlaw09_small.f k).bind fun h => (joistlaw09_few.f k l0).bind fun b =>
    if b = true then (roots_Bytes.f k l0).bind fun x => (roots_Read.f k l1).bind fun m => (joistref09_Bytes.f k l0).bind fun y => (joistref09_Read.f k l1).bind fun n => (joistref09_Same.f k m.1 n.1).bind fun s =>
      if h = true ∧ x = y ∧ m.2 = n.2 ∧ s = true ∧ l1.length ≤ 140737488351232 then some true else none
    else some h
set_option maxRecDepth 100000 in
set_option maxHeartbeats 4000000 in
theorem codes_many (k : Nat) (A0 : Option Addr) (c0 : Nat) (l0 : List S56) (A1 : Option Addr) (c1 : Nat) (l1 : List Int) (hd : Bool) (w : World) (hr0 : Kd.C k56 w A0 l0.length l0) (hc0 : l0.length ≤ c0) (hr1 : Kd.C (Kd.int .u8) w A1 l1.length l1) (hc1 : l1.length ≤ c1)
    (h1 : joistlaw09_small.f k = some hd) (h2 : joistlaw09_few.f k l0 = some false) :
    Calls Tryd.prog 8 #[.slice A0 l0.length c0, .slice A1 l1.length c1] w fun e w' => e = .returned (.bool hd) ∧ Below w.heap.size w w' := by
  have HSM := Aside0.mk h1
  have HFW := Aside0.mk h2
  have HR0 := Aside0.mk hr0
  have HR1 := Aside0.mk hr1
  have HB := Aside0.mk (Below.refl w.heap.size w)
  clear hr0 hr1 h1 h2
  go_enter Tryd.func8, Tryd.ntmps8
  go_wp2_with (first | (go_at_call 22; refine (joistlaw09_small.calls k hd _ HSM.out).mono ?_; rintro e w1 ⟨rfl, hb⟩; have n1 := Aside0.mk (below_step HB.out hb); have n2 := Aside0.mk (Kd.C_below HR0.out hb); have n3 := Aside0.mk (Kd.C_below HR1.out hb); clear HB HR0 HR1; have HB := n1; have HR0 := n2; have HR1 := n3; clear n1 n2 n3; clear hb; have HB1 := HB) | (go_at_call 23; refine (joistlaw09_few.calls k A0 c0 l0 false _ HR0.out hc0 HFW.out).mono ?_; rintro e wf ⟨rfl, hd_⟩; have hb := drawn_below hd_; clear hd_; have n1 := Aside0.mk (below_step HB.out hb); have n2 := Aside0.mk (Kd.C_below HR0.out hb); have n3 := Aside0.mk (Kd.C_below HR1.out hb); clear HB HR0 HR1; have HB := n1; have HR0 := n2; have HR1 := n3; clear n1 n2 n3; clear hb; clear HB1; have HB1 := HB))
  go_ret
  exact ⟨by first | rfl | (simp; done) | (simp [*]; done), HB.out⟩
set_option maxRecDepth 100000 in
set_option maxHeartbeats 4000000 in
theorem codes_few (k : Nat) (A0 : Option Addr) (c0 : Nat) (l0 : List S56) (A1 : Option Addr) (c1 : Nat) (l1 : List Int) (X : List Int) (E : Int) (m n : List S56) (is : Bool) (w : World) (hr0 : Kd.C k56 w A0 l0.length l0) (hc0 : l0.length ≤ c0) (hr1 : Kd.C (Kd.int .u8) w A1 l1.length l1) (hc1 : l1.length ≤ c1) (hl : l1.length ≤ 140737488351232)
    (h1 : joistlaw09_small.f k = some true) (h2 : joistlaw09_few.f k l0 = some true) (h3 : roots_Bytes.f k l0 = some (X, E)) (h4 : roots_Read.f k l1 = some (m, is)) (h5 : joistref09_Bytes.f k l0 = some (X, E)) (h6 : joistref09_Read.f k l1 = some (n, is)) (h7 : joistref09_Same.f k m n = some true) :
    Calls Tryd.prog 8 #[.slice A0 l0.length c0, .slice A1 l1.length c1] w fun e w' => e = .returned (.bool true) ∧ Below w.heap.size w w' := by
  obtain ⟨hd, hhd⟩ : ∃ b, b = true := ⟨_, rfl⟩
  have HSM := Aside0.mk (h1.trans (congrArg some hhd.symm))
  have HFW := Aside0.mk h2
  have HE := Aside0.mk h3
  have HU := Aside0.mk h4
  have HE2 := Aside0.mk h5
  have HU2 := Aside0.mk h6
  have HS := Aside0.mk h7
  have HR0 := Aside0.mk hr0
  have HR1 := Aside0.mk hr1
  have HB := Aside0.mk (Below.refl w.heap.size w)
  subst hhd
  clear hr0 hr1 h1 h2 h3 h4 h5 h6 h7
  go_enter Tryd.func8, Tryd.ntmps8
  go_wp2_with (first | (go_at_call 22; refine (joistlaw09_small.calls k true _ HSM.out).mono ?_; rintro e w1 ⟨rfl, hb⟩; have n1 := Aside0.mk (below_step HB.out hb); have n2 := Aside0.mk (Kd.C_below HR0.out hb); have n3 := Aside0.mk (Kd.C_below HR1.out hb); clear HB HR0 HR1; have HB := n1; have HR0 := n2; have HR1 := n3; clear n1 n2 n3; clear hb; have HB1 := HB) | (go_at_call 23; refine (joistlaw09_few.calls k A0 c0 l0 true _ HR0.out hc0 HFW.out).mono ?_; rintro e wf ⟨rfl, hd_⟩; have hb := drawn_below hd_; clear hd_; have n1 := Aside0.mk (below_step HB.out hb); have n2 := Aside0.mk (Kd.C_below HR0.out hb); have n3 := Aside0.mk (Kd.C_below HR1.out hb); clear HB HR0 HR1; have HB := n1; have HR0 := n2; have HR1 := n3; clear n1 n2 n3; clear hb; clear HB1; have HB1 := HB) | (go_at_call 15; refine (joistlaw01_Lent.calls A1 c1 l1 _ HR1.out hc1 hl).mono ?_; rintro e w2 ⟨g, rfl, hge, hg, hb⟩; have n1 := Aside0.mk (below_step HB.out hb); have n2 := Aside0.mk (Kd.C_below HR0.out hb); have n3 := Aside0.mk (Kd.C_below HR1.out hb); clear HB HR0 HR1; have HB := n1; have HR0 := n2; have HR1 := n3; clear n1 n2 n3; have HG := Aside0.mk hg; have HGB := Aside0.mk (Nat.le_trans (below_size HB1.out) hge); have HGN := Aside0.mk (blk_lt hg); have HN2 := Aside0.mk (below_size HB.out); clear hg hge hb) | (go_at_call 24; refine (roots_Bytes.calls k A0 c0 l0 X E _ HR0.out hc0 HE.out).mono ?_; rintro e w3 ⟨vx, rfl, hx, hb⟩; have n1 := Aside0.mk (below_step HB.out hb); have n2 := Aside0.mk (Kd.C_below HR0.out hb); have n3 := Aside0.mk (Kd.C_below HR1.out hb); have n4 := Aside0.mk ((hb.block _ (blk_lt HG.out)).trans HG.out); clear HB HR0 HR1 HG; have HB := n1; have HR0 := n2; have HR1 := n3; have HG := n4; clear n1 n2 n3 n4; obtain ⟨Ax, cx, rfl⟩ := Kd.R_slice hx; have HX := Aside0.mk hx; clear hx hb) | (go_at_call 25; refine (roots_Read.calls k (fun k_ => k_ = g) (some ⟨g, 0, none⟩) (l1.length + 1) l1 m is _ (lent_V HG.out hl) HU.out).mono ?_; rintro e w4 ⟨vm, rfl, hm, hb⟩; have n1 := Aside0.mk (below_step HB.out hb); have n2 := Aside0.mk (Kd.C_below HR0.out hb); have n3 := Aside0.mk (Kd.C_below HR1.out hb); have n4 := Aside0.mk ((hb.block _ (blk_lt HG.out)).trans HG.out); have n5 := Aside0.mk (Kd.R_below HX.out hb); clear HB HR0 HR1 HG HX; have HB := n1; have HR0 := n2; have HR1 := n3; have HG := n4; have HX := n5; clear n1 n2 n3 n4 n5; obtain ⟨Am, cm, rfl⟩ := Kd.R_slice hm; have HM := Aside0.mk hm; clear hm hb) | (go_at_call 18; refine (joistlaw01_Kept.calls g A1 c1 l1 _ HG.out HR1.out hc1 hl).mono ?_; rintro e w5 ⟨rfl, hd_⟩; have hb := drawn_below hd_; clear hd_; have n1 := Aside0.mk (below_step HB.out hb); have n2 := Aside0.mk (Kd.C_below HR0.out hb); have n3 := Aside0.mk (Kd.C_below HR1.out hb); have n4 := Aside0.mk ((hb.block _ (blk_lt HG.out)).trans HG.out); have n5 := Aside0.mk (Kd.R_below HX.out hb); have n6 := Aside0.mk (Kd.R_below HM.out hb); clear HB HR0 HR1 HG HX HM; have HB := n1; have HR0 := n2; have HR1 := n3; have HG := n4; have HX := n5; have HM := n6; clear n1 n2 n3 n4 n5 n6; clear hb) | (go_at_call 26; refine (joistref09_Bytes.calls k A0 c0 l0 X E _ HR0.out hc0 HE2.out).mono ?_; rintro e w6 ⟨vy, rfl, hy, hb⟩; have n1 := Aside0.mk (below_step HB.out hb); have n2 := Aside0.mk (Kd.C_below HR0.out hb); have n3 := Aside0.mk (Kd.C_below HR1.out hb); have n4 := Aside0.mk ((hb.block _ (blk_lt HG.out)).trans HG.out); have n5 := Aside0.mk (Kd.R_below HX.out hb); have n6 := Aside0.mk (Kd.R_below HM.out hb); clear HB HR0 HR1 HG HX HM; have HB := n1; have HR0 := n2; have HR1 := n3; have HG := n4; have HX := n5; have HM := n6; clear n1 n2 n3 n4 n5 n6; obtain ⟨Ay, cy, rfl⟩ := Kd.R_slice hy; have HY := Aside0.mk hy; clear hy hb) | (go_at_call 27; refine (joistref09_Read.calls k A1 c1 l1 n is _ HR1.out hc1 HU2.out).mono ?_; rintro e w7 ⟨vn, rfl, hn, hb⟩; have n1 := Aside0.mk (below_step HB.out hb); have n2 := Aside0.mk (Kd.C_below HR0.out hb); have n3 := Aside0.mk (Kd.C_below HR1.out hb); have n4 := Aside0.mk ((hb.block _ (blk_lt HG.out)).trans HG.out); have n5 := Aside0.mk (Kd.R_below HX.out hb); have n6 := Aside0.mk (Kd.R_below HM.out hb); have n7 := Aside0.mk (Kd.R_below HY.out hb); clear HB HR0 HR1 HG HX HM HY; have HB := n1; have HR0 := n2; have HR1 := n3; have HG := n4; have HX := n5; have HM := n6; have HY := n7; clear n1 n2 n3 n4 n5 n6 n7; obtain ⟨An, cn, rfl⟩ := Kd.R_slice hn; have HN := Aside0.mk hn; clear hn hb; have hcvx := Kd.C_string (P := Tryd.prog) (A := Ax) (c := cx) Tryd.underlying25 Tryd.underlying5 Tryd.underlying9 (Kd.R_reads' HX.out).2.2; have hcvy := Kd.C_string (P := Tryd.prog) (A := Ay) (c := cy) Tryd.underlying25 Tryd.underlying5 Tryd.underlying9 (Kd.R_reads' HY.out).2.2) | (go_at_call 28; refine (joistref09_Same.calls k Am cm m An cn n true _ (Kd.R_reads' HM.out).2.2 (Kd.R_reads' HM.out).2.1 (Kd.R_reads' HN.out).2.2 (Kd.R_reads' HN.out).2.1 HS.out).mono ?_; rintro e w9 ⟨rfl, hd_⟩; have hb := drawn_below hd_; clear hd_; have n1 := Aside0.mk (below_step HB.out hb); have n2 := Aside0.mk (Kd.C_below HR0.out hb); have n3 := Aside0.mk (Kd.C_below HR1.out hb); have n4 := Aside0.mk ((hb.block _ (blk_lt HG.out)).trans HG.out); have n5 := Aside0.mk (Kd.R_below HX.out hb); clear HB HR0 HR1 HG HX; have HB := n1; have HR0 := n2; have HR1 := n3; have HG := n4; have HX := n5; clear n1 n2 n3 n4 n5; have HT := Aside0.mk (two_rows HX.out HG.out hl HGN.out HN2.out HGB.out rfl); have HLT := Aside0.mk (Below.alloc HB.out (below_size HB.out) (.cells #[.slice Ax X.length cx, .slice (some ⟨g, 0, none⟩) l1.length (l1.length + 1)] 25)); clear hb) | (go_at_call 21; refine (joistlaw01_Owned.calls _ _ w.heap.size w _ HT.out.1 HT.out.2.1 (Nat.le_of_ble_eq_true rfl) HLT.out HT.out.2.2).mono ?_; rintro e w8 ⟨rfl, hb8⟩; have HB8 := Aside0.mk hb8; clear hb8))
  go_ret
  exact ⟨by first | rfl | (simp; done) | (simp [*]; done), HB8.out⟩
theorem joistlaw09_RootsCodes.calls (k : Nat) (A0 : Option Addr) (c0 : Nat) (l0 : List S56) (A1 : Option Addr) (c1 : Nat) (l1 : List Int) (r : Bool) (w : World) (hr0 : Kd.C k56 w A0 l0.length l0) (hc0 : l0.length ≤ c0) (hr1 : Kd.C (Kd.int .u8) w A1 l1.length l1) (hc1 : l1.length ≤ c1) (h : joistlaw09_RootsCodes.f k l0 l1 = some r) :
    Calls Tryd.prog 8 #[.slice A0 l0.length c0, .slice A1 l1.length c1] w fun e w' => e = .returned (.bool r) ∧ Below w.heap.size w w' := by
  unfold joistlaw09_RootsCodes.f at h
  obtain ⟨hd, h1, h⟩ := Option.bind_eq_some_iff.mp h
  obtain ⟨b, h2, h⟩ := Option.bind_eq_some_iff.mp h
  cases b with
  | false =>
    rw [if_neg (by decide)] at h
    obtain rfl := Option.some.inj h
    exact codes_many k A0 c0 l0 A1 c1 l1 hd w hr0 hc0 hr1 hc1 h1 h2
  | true =>
    rw [if_pos rfl] at h
    obtain ⟨⟨X, E⟩, h3, h⟩ := Option.bind_eq_some_iff.mp h
    obtain ⟨⟨m, is⟩, h4, h⟩ := Option.bind_eq_some_iff.mp h
    obtain ⟨⟨Y, F⟩, h5, h⟩ := Option.bind_eq_some_iff.mp h
    obtain ⟨⟨n, was⟩, h6, h⟩ := Option.bind_eq_some_iff.mp h
    obtain ⟨s, h7, h⟩ := Option.bind_eq_some_iff.mp h
    split at h
    · rename_i hc
      have hr := Option.some.inj h
      obtain ⟨rfl, he, hi, rfl, hl⟩ := hc
      simp only at hi
      subst hi
      subst hr
      rw [← he] at h5
      exact codes_few k A0 c0 l0 A1 c1 l1 X E m n is w hr0 hc0 hr1 hc1 hl h1 h2 h3 h4 h5 h6 h7
    · cases h
end Go.Proofs.YtlhemachmidoaaaDoor.P
