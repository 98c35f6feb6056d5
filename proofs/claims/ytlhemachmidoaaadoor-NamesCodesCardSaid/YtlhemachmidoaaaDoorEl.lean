/- joistlaw01.Lent and joistlaw01.Kept: bytes with spare room, in which a mark stands. -/
import Derived.Test.YtlhemachmidoaaaDoorEf
namespace Go.Proofs.YtlhemachmidoaaaDoor.P
open Go.RowKit Go.Proofs.YtlhemachmidoaaaDoorW.PrintWords Go.Proofs.YtlhemachmidoaaaDoorW.PrintLast Go.Proofs.YtlhemachmidoaaaDoorW.PrintMore
set_option linter.unusedVariables false
set_option linter.unusedSimpArgs false

theorem wpList_make_len {P : Program} {w : World} {ops : Array Oper} {rest : List Oper} {o : Oper} {a : Act} {Q : Exit → Act → World → Prop}
    (hg : o.guard = none) (l c : Operand) (t : TypeId) (hop : o.op = Op.makeSlice t l c) (e : TypeId) (i : TypeInfo) (z : Value) (h1 : P.underlying t = some (.slice e)) (h2 : P.info? e = some i) (h3 : i.zero = some z)
    (L C : Nat) (hl : a.eval l = .int .i64 L) (hc : a.eval c = .int .i64 C) (hlc : L ≤ C) (hb : (i.bytes : Int) * C ≤ 281474976710656) (h63 : (C : Int) ≤ 9223372036854775807)
    (hK : wpList P ops Q rest (a.put o.dst (.slice (some ⟨w.heap.size, 0, none⟩) L C)) (w.alloc (.cells (madeCells z.cells (C * i.size)) e))) : wpList P ops Q (o :: rest) a w := by
  refine wpList_plain hg fun K hK' => ?_
  have hrun := run_make (P := P) (w := w) t e i z h1 h2 h3 .i64 .i64 (L : Int) (C : Int) (by omega) (by omega) hb h63
  simp only [Int.toNat_natCast] at hrun
  unfold Oper.wp
  simp [execOp, hop, hl, hc, hrun, Result.andThen]
  exact hK' _ _ hK
def lentRow (l : List Int) : Array Value := (encs (Value.int .u8) (l ++ [77])).toArray
set_option maxRecDepth 100000 in
theorem joistlaw01_Lent.calls (A0 : Option Addr) (c0 : Nat) (l0 : List Int) (w : World) (hr0 : Kd.C (Kd.int .u8) w A0 l0.length l0) (hc0 : l0.length ≤ c0) (hl : l0.length ≤ 140737488351232) :
    Calls Tryd.prog 15 #[.slice A0 l0.length c0] w fun e w' => ∃ g, e = .returned (.slice (some ⟨g, 0, none⟩) l0.length (l0.length + 1)) ∧ w.heap.size ≤ g ∧ w'.heap[g]? = some (.cells (lentRow l0) 5 (0, 0)) ∧ Below w.heap.size w w' := by
  obtain ⟨i0, hi0, hz0, hs0, hb0⟩ := info_parts info5
  have hw64 : wrap64 ((l0.length : Int) + 1) = ((l0.length + 1 : Nat) : Int) := (wrap_fit (by omega) (by omega)).trans (by omega)
  have HR := Aside0.mk hr0
  clear hr0
  go_enter Tryd.func15, Tryd.ntmps15
  have hcur : (madeCells (Value.int .u8 0).cells ((l0.length + 1) * i0.size)).size = l0.length + 1 := by rw [size_madeCells, hs0, Nat.mul_one]
  generalize hcc : madeCells (Value.int .u8 0).cells ((l0.length + 1) * i0.size) = cur0 at hcur
  have hC := Kd.reads_of_C (enc := Value.int .u8) (d := (0 : Int)) (h1 := fun _ => rfl) (Kd.C_alloc HR.out (.cells cur0 5))
  have HC := Aside0.mk hC
  have HLN := Aside0.mk (show cur0.toList.length = l0.length + 1 by rw [← hcur]; exact Array.length_toList)
  have HCC := Aside0.mk hcc
  have hnew : (w.alloc (.cells cur0 5)).heap[w.heap.size]? = some (.cells cur0.toList.toArray 5 (0, 0)) := by
    rw [Array.toArray_toList]
    exact Array.getElem?_push_size
  have HNEW := Aside0.mk hnew
  clear hC hcur hcc hnew
  go_wp2_with (first | ((with_reducible refine gate_dst (N := 9) rfl ?_); refine wpList_make_len rfl _ _ 25 rfl 5 i0 (.int .u8 0) Tryd.underlying25 hi0 hz0 l0.length (l0.length + 1) rfl ?hc (by omega) (by rw [hb0]; omega) (by omega) ?_; (case hc => first | exact congrArg (Value.int .i64) hw64 | (show Value.int .i64 ((l0.length : Int) + 1) = _; exact congrArg _ (by omega))); rw [HCC.out]) | ((with_reducible refine gate_builtin (b := .copy) (xs := #[.tmp 10, .tmp 11]) rfl ?_); go_loud ((refine wpList_copy_splice rfl (.tmp 10) (.tmp 11) 25 25 rfl 5 Tryd.underlying25 size5 _ _ _ _ _ _ rfl rfl w.heap.size 0 cur0.toList 5 HNEW.out (encs (Value.int .u8) l0) ?hn ?hpos ?hfit ?h1 w.heap.size w (below_alloc (Below.refl _ _) _) (Nat.le_refl _) ?_); (case hn => rw [encs_length]; exact (Nat.min_self _).symm); (case hfit => rw [encs_length, Nat.zero_add, HLN.out]; omega); (case h1 => intro v hv; unfold encs at hv; obtain ⟨x, _, rfl⟩ := List.mem_map.1 hv; rfl); (case hpos => intro hp; rw [encs_length] at hp; obtain ⟨ad, rfl, hc⟩ := HC.out.2.2 hp; refine ⟨rfl, ad, rfl, fun j v hj => ?_⟩; unfold encs at hj; rw [List.getElem?_map, Option.map_eq_some_iff] at hj; obtain ⟨x, hx, rfl⟩ := hj; obtain ⟨hlj, hx2⟩ := List.getElem?_eq_some_iff.1 hx; rw [hc j hlj, List.getD_eq_getElem?_getD, hx]; rfl); intro w2 HG2 hB2; obtain ⟨row7, hrow7⟩ : ∃ r, r = (splice cur0.toList 0 (encs (Value.int .u8) l0)) := ⟨_, rfl⟩; have hg7 : w2.heap[w.heap.size]? = some (.cells row7.toArray 5 (0, 0)) := (by rw [hrow7]; exact HG2); have hl7 : row7.length = l0.length + 1 := (by rw [hrow7, length_splice _ _ _ (by rw [encs_length, Nat.zero_add, HLN.out]; omega)]; exact HLN.out); have hc7 := blk_cell hg7 l0.length; obtain ⟨x7, hx7⟩ : ∃ x, row7[l0.length]? = some x := ⟨_, List.getElem?_eq_getElem (by omega)⟩; rw [List.getElem?_toArray, hx7] at hc7; clear hx7; have hf7 := blk_frozen hg7 l0.length; have HG7 := Aside0.mk hg7; have HR7 := Aside0.mk hrow7; have HB7 := Aside0.mk hB2; have HL7 := Aside0.mk hl7; clear HG2 hB2 hg7 hrow7 hl7)))
  go_ret
  refine ⟨w.heap.size, rfl, Nat.le_refl _, ?_, HB7.out.setCell (Nat.le_refl _) _⟩
  rw [blk_set HG7.out l0.length (.int .u8 77)]
  have hd : (cur0.toList.drop l0.length).length = 1 := by rw [List.length_drop, HLN.out]; omega
  obtain ⟨z, hz⟩ := List.length_eq_one_iff.1 hd
  have e : row7 = encs (Value.int .u8) l0 ++ [z] := by
    rw [HR7.out]
    unfold splice
    rw [List.take_zero, List.nil_append, Nat.zero_add, encs_length, hz]
  have e2 : row7.toArray.setIfInBounds l0.length (.int .u8 77) = lentRow l0 := by
    unfold lentRow
    apply Array.ext'
    rw [e, List.setIfInBounds_toArray, encs_append, List.set_append_right _ _ (by rw [encs_length]; exact Nat.le_refl _), encs_length, Nat.sub_self]
    rfl
  rw [e2]
theorem lent_cell {w : World} {g : Nat} {l : List Int} (h : w.heap[g]? = some (.cells (lentRow l) 5 (0, 0))) (j : Nat) (hj : j < l.length) : w.cell? ⟨g, j, none⟩ = some (.int .u8 (l.getD j 0)) := by
  rw [blk_cell h j]
  unfold lentRow
  rw [List.getElem?_toArray, encs_append, List.getElem?_append_left (by rw [encs_length]; exact hj)]
  exact encs_get l j hj
theorem lent_mark {w : World} {g : Nat} {l : List Int} (h : w.heap[g]? = some (.cells (lentRow l) 5 (0, 0))) : w.cell? ⟨g, l.length, none⟩ = some (.int .u8 77) := by
  rw [blk_cell h l.length]
  unfold lentRow
  rw [List.getElem?_toArray, encs_append, List.getElem?_append_right (by rw [encs_length]; exact Nat.le_refl _), encs_length, Nat.sub_self]
  rfl
theorem lent_C {w : World} {g : Nat} {l : List Int} (h : w.heap[g]? = some (.cells (lentRow l) 5 (0, 0))) (hl : l.length ≤ 140737488351232) : Kd.C (Kd.int .u8) w (some ⟨g, 0, none⟩) l.length l :=
  Kd.C_of_reads (d := (0 : Int)) ⟨rfl, by omega, fun _ => ⟨⟨g, 0, none⟩, rfl, fun j hj => by rw [add_plain]; exact lent_cell h j hj⟩⟩
set_option maxRecDepth 100000 in
theorem joistlaw01_Kept.calls (g : Nat) (A1 : Option Addr) (c1 : Nat) (l : List Int) (w : World) (hg : w.heap[g]? = some (.cells (lentRow l) 5 (0, 0))) (hr1 : Kd.C (Kd.int .u8) w A1 l.length l) (hc1 : l.length ≤ c1) (hl : l.length ≤ 140737488351232) :
    Calls Tryd.prog 18 #[.slice (some ⟨g, 0, none⟩) l.length (l.length + 1), .slice A1 l.length c1] w fun e w' => e = .returned (.bool true) ∧ Drawn0 w w' := by
  have hw64 : wrap64 ((l.length : Int) + 1) = ((l.length + 1 : Nat) : Int) := (wrap_fit (by omega) (by omega)).trans (by omega)
  have hcv0 := Kd.C_string (P := Tryd.prog) (A := some ⟨g, 0, none⟩) (c := l.length + 1) Tryd.underlying25 Tryd.underlying5 Tryd.underlying9 (lent_C hg hl)
  have hcv1 := Kd.C_string (P := Tryd.prog) (A := A1) (c := c1) Tryd.underlying25 Tryd.underlying5 Tryd.underlying9 hr1
  have hm := lent_mark hg
  have hf := blk_frozen hg l.length
  clear hr1 hg
  go_enter Tryd.func18, Tryd.ntmps18
  go_wp2
  go_ret
  exact ⟨by first | rfl | (simp; done) | (simp [*]; done), by repeat (first | exact Drawn0.refl _ | apply Drawn0.step)⟩
end Go.Proofs.YtlhemachmidoaaaDoor.P
