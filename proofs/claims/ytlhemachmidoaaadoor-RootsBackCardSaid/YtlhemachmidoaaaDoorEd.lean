/- What names.Fold returns. -/
import Derived.Test.YtlhemachmidoaaaDoorEf
import Derived.Laws.Cover4
namespace Go.Proofs.YtlhemachmidoaaaDoor.P
open Go.RowKit Go.Proofs.YtlhemachmidoaaaDoorW.PrintWords Go.Proofs.YtlhemachmidoaaaDoorW.PrintLast Go.Proofs.YtlhemachmidoaaaDoorW.PrintMore
set_option linter.unusedVariables false
set_option linter.unusedSimpArgs false

def fold_rune (c : Int) : Int := if 97 ≤ c ∧ c ≤ 122 then c - 32 else c
def fold_runes (s : ByteArray) : Nat → Nat → List Int
  | 0, _ => []
  | d + 1, pos => if pos < s.size then fold_rune (Utf8.decode s pos).1 :: fold_runes s d (pos + (Utf8.decode s pos).2) else []
theorem fold_more (s : ByteArray) : ∀ (d pos : Nat), s.size ≤ pos + d → ∀ k, fold_runes s (d + k) pos = fold_runes s d pos := by
  intro d
  induction d with
  | zero =>
    intro pos h k
    cases k with
    | zero => rfl
    | succ k => rw [Nat.zero_add]; simp only [fold_runes]; rw [if_neg (by omega)]
  | succ d ih =>
    intro pos h k
    rw [show d + 1 + k = (d + k) + 1 by omega]
    simp only [fold_runes]
    by_cases hp : pos < s.size
    · have hw := Lib.decode_width_pos s pos hp
      rw [if_pos hp, if_pos hp, ih _ (by omega)]
    · rw [if_neg hp, if_neg hp]
def fold_of (s : ByteArray) : ByteArray := runesBytes (fold_runes s s.size 0)
def names_Fold.f (a0 : ByteArray) : Option ByteArray := if a0.size ≤ 1048576 then some (fold_of a0) else none
structure FoldAt (s : ByteArray) (pos : Nat) (acc : List Int) (all : List Int) : Prop where
  h : acc ++ fold_runes s (s.size - pos) pos = all
  len : acc.length ≤ pos
theorem FoldAt.next {s : ByteArray} {pos : Nat} {acc all : List Int} (h : FoldAt s pos acc all) (hp : pos < s.size) : FoldAt s (pos + (Utf8.decode s pos).2) (acc ++ [fold_rune (Utf8.decode s pos).1]) all := by
  have h0 := h.h
  have hl := h.len
  have hw := Lib.decode_width_pos s pos hp
  rw [show s.size - pos = (s.size - pos - 1) + 1 by omega] at h0
  simp only [fold_runes] at h0
  rw [if_pos hp] at h0
  refine ⟨?_, by rw [List.length_append, List.length_singleton]; omega⟩
  rw [← h0, List.append_assoc, List.singleton_append]
  congr 2
  have := fold_more s (s.size - (pos + (Utf8.decode s pos).2)) (pos + (Utf8.decode s pos).2) (by omega) (s.size - pos - 1 - (s.size - (pos + (Utf8.decode s pos).2)))
  rw [← this]
  congr 1
  omega
theorem FoldAt.done {s : ByteArray} {pos : Nat} {acc all : List Int} (h : FoldAt s pos acc all) (hp : ¬ pos < s.size) : acc = all := by
  have h0 := h.h
  rw [show s.size - pos = 0 by omega] at h0
  simpa [fold_runes] using h0
theorem R_iterAt {W : World} {base : Nat} {v : Value} {xs : List Int} (h : Kd.R (Kd.int .i32) 21 W base (fun _ => True) v xs) {k : Nat} (hk : k < base) (s : ByteArray) (p : Nat) : Kd.R (Kd.int .i32) 21 (W.iterAt k s p) base (fun _ => True) v xs :=
  Kd.R_of_own (ownsRow_iterAt (Kd.own_of_R h) hk s p) (fun _ _ => trivial)
theorem underlying46 : Tryd.prog.underlying 46 = some (.slice 21) := by kernel_rfl
theorem underlying21 : Tryd.prog.underlying 21 = some (.int .i32) := by kernel_rfl
theorem info21 : (Tryd.prog.info? 21).map (fun i => (i.zero, i.size, i.bytes)) = some (some (.int .i32 0), 1, 4) := by kernel_rfl
theorem runes_convert {W : World} {base : Nat} {v : Value} {xs : List Int} (h : Kd.R (Kd.int .i32) 21 W base (fun _ => True) v xs) : (convert 46 9 v).run Tryd.prog W = .ok (.string (runesBytes xs)) W := by
  obtain ⟨A, c, rfl, _, hC⟩ := Kd.R_reads h
  rw [run_convert_runes_string W 46 9 21 A xs.length c underlying46 underlying21 Tryd.underlying9]
  have hr := Kd.reads_of_C (enc := Value.int .i32) (d := (0 : Int)) (h1 := fun _ => rfl) hC
  by_cases hn : 0 < xs.length
  · obtain ⟨ad, rfl, hc⟩ := hr.2.2 hn
    refine run_runesToString W ad xs.length c xs ?_
    have := run_loadCells_list (P := Tryd.prog) (w := W) ad (xs.map (Value.int .i32)) (fun j v hj => by
      rw [List.getElem?_map, Option.map_eq_some_iff] at hj
      obtain ⟨x, hx, rfl⟩ := hj
      obtain ⟨hl, hx2⟩ := List.getElem?_eq_some_iff.1 hx
      rw [hc j hl, List.getD_eq_getElem?_getD, hx]
      rfl)
    rw [List.length_map] at this
    exact this
  · obtain rfl := List.eq_nil_of_length_eq_zero (by omega : xs.length = 0)
    cases A with
    | some ad => exact run_runesToString W ad 0 c [] (run_loadCells_list (P := Tryd.prog) (w := W) ad [] (fun j v hj => by simp at hj))
    | none => simp [Conv.runesToString, runesBytes]
set_option maxRecDepth 100000 in
theorem names_Fold.calls (a0 : ByteArray) (r : ByteArray) (w : World) (h : names_Fold.f a0 = some r) :
    Calls Tryd.prog 13 #[.string a0] w fun e w' => e = .returned (.string r) ∧ Below w.heap.size w w' := by
  unfold names_Fold.f at h
  by_cases hs : a0.size ≤ 1048576
  · rw [if_pos hs] at h
    obtain rfl := Option.some.inj h
    clear h
    unfold fold_of
    generalize hall : fold_runes a0 a0.size 0 = all
    have HR := Aside0.mk (FoldAt.mk (s := a0) (pos := 0) (acc := []) (all := all) (by rw [List.nil_append, Nat.sub_zero]; exact hall) (Nat.le_refl _))
    clear hall
    go_enter Tryd.func13, Tryd.ntmps13
    go_wp2
    go_loopw [3] (fun v3 wr => ∃ (pos : Nat) (acc : List Int), pos ≤ a0.size ∧ Aside0 (wr.heap[w.heap.size]? = some (.stringIter a0 pos)) ∧ Aside0 (Below w.heap.size w wr) ∧ Aside0 (FoldAt a0 pos acc all) ∧ Aside0 (Kd.R (Kd.int .i32) 21 wr (w.heap.size + 1) (fun _ => True) v3 acc)) (fun v3 wr => a0.size - wr.iterPos w.heap.size)
    case atStart => exact ⟨0, [], Nat.zero_le _, ⟨World.iter_heap _ _ _⟩, ⟨below_alloc (Below.refl _ _) _⟩, HR, ⟨Kd.R_nil _ _ _ _ _⟩⟩
    case round =>
      obtain ⟨pos, acc, hpos, HI, HB, HA, HO⟩ := hrel
      have hlt := blk_lt HI.out
      by_cases hp : pos < a0.size
      · have hnx := fun ty => Lib.run_next_any_at (P := Tryd.prog) wr w.heap.size a0 pos ty HI.out hp
        have hw1 := Lib.decode_width_pos a0 pos hp
        have hw2 := decode_within a0 pos hp
        have hit : (wr.iterAt w.heap.size a0 (pos + (Utf8.decode a0 pos).2)).heap[w.heap.size]? = some (.stringIter a0 (pos + (Utf8.decode a0 pos).2)) := Lib.iterAt_heap wr _ a0 pos _ HI.out
        have hbit := Lib.below_iterAt HB.out (Nat.le_refl _) a0 (pos + (Utf8.decode a0 pos).2)
        have hpos0 : wr.iterPos w.heap.size = pos := iterPos_of HI.out
        have hsz := Lib.iterAt_size wr w.heap.size a0 (pos + (Utf8.decode a0 pos).2)
        have HIT := Aside0.mk hit
        have HBIT := Aside0.mk hbit
        have HP0 := Aside0.mk hpos0
        have HN := Aside0.mk (HA.out.next hp)
        have HOI := Aside0.mk (R_iterAt HO.out (Nat.lt_succ_self w.heap.size) a0 (pos + (Utf8.decode a0 pos).2))
        have HL := Aside0.mk HA.out.len
        have HSZ := Aside0.mk (show w.heap.size + 1 ≤ (wr.iterAt w.heap.size a0 (pos + (Utf8.decode a0 pos).2)).heap.size by rw [hsz]; exact hlt)
        clear hit hbit hpos0 hsz HA HO
        by_cases h1 : 97 ≤ ((Utf8.decode a0 pos).1 : Int)
        · by_cases h2 : ((Utf8.decode a0 pos).1 : Int) ≤ 122
          · have he : fold_rune ((Utf8.decode a0 pos).1 : Int) = ((Utf8.decode a0 pos).1 : Int) + -32 := by unfold fold_rune; rw [if_pos ⟨h1, h2⟩]; omega
            rw [he] at HN
            clear he
            go_wp2_with (first | ((with_reducible refine gate_builtin (b := .append) (xs := #[.tmp 19, .tmp 21]) rfl ?_); at_builtin; refine Kd.R_append (Kd.int .i32) (w0 := wr.iterAt w.heap.size a0 (pos + (Utf8.decode a0 pos).2)) (w.heap.size + 1) rfl (.tmp 19) (.tmp 21) 46 21 (.int .i32 0) 4 rfl underlying46 info21 rfl (by decide) (by omega) _ acc (((Utf8.decode a0 pos).1 : Int) + -32) [.int .i32 (((Utf8.decode a0 pos).1 : Int) + -32)] (fun _ => True) (fun _ => False) rfl rfl ?aP (fun _ hk => hk.elim) ?aF ?aO ?aB ?aS ?aL ?_; (case aP => exact rfl); (case aB => exact Below.refl _ _); (case aF => exact (fun _ _ => trivial)); (case aO => exact HOI.out); (case aS => exact HSZ.out); (case aL => have := HL.out; omega); intro v1 w1 ho hb hgr hat; have HO1 := Aside0.mk ho; have HI1 := Aside0.mk ((hb.block _ (Nat.lt_succ_self w.heap.size)).trans HIT.out); have HB1 := Aside0.mk (HBIT.out.trans (hb.mono (Nat.le_succ w.heap.size))); clear ho hb hgr hat))
            go_roundw
            case rel => exact ⟨pos + (Utf8.decode a0 pos).2, _, hw2, HI1, HB1, HN, HO1⟩
            case measure =>
              have hq : w1.iterPos w.heap.size = pos + (Utf8.decode a0 pos).2 := iterPos_of HI1.out
              rw [hq, HP0.out]
              omega
          · have he : fold_rune ((Utf8.decode a0 pos).1 : Int) = ((Utf8.decode a0 pos).1 : Int) := by unfold fold_rune; rw [if_neg (fun hh => h2 hh.2)]
            rw [he] at HN
            clear he
            go_wp2_with (first | ((with_reducible refine gate_builtin (b := .append) (xs := #[.tmp 19, .tmp 21]) rfl ?_); at_builtin; refine Kd.R_append (Kd.int .i32) (w0 := wr.iterAt w.heap.size a0 (pos + (Utf8.decode a0 pos).2)) (w.heap.size + 1) rfl (.tmp 19) (.tmp 21) 46 21 (.int .i32 0) 4 rfl underlying46 info21 rfl (by decide) (by omega) _ acc (((Utf8.decode a0 pos).1 : Int)) [.int .i32 (((Utf8.decode a0 pos).1 : Int))] (fun _ => True) (fun _ => False) rfl rfl ?aP (fun _ hk => hk.elim) ?aF ?aO ?aB ?aS ?aL ?_; (case aP => exact rfl); (case aB => exact Below.refl _ _); (case aF => exact (fun _ _ => trivial)); (case aO => exact HOI.out); (case aS => exact HSZ.out); (case aL => have := HL.out; omega); intro v1 w1 ho hb hgr hat; have HO1 := Aside0.mk ho; have HI1 := Aside0.mk ((hb.block _ (Nat.lt_succ_self w.heap.size)).trans HIT.out); have HB1 := Aside0.mk (HBIT.out.trans (hb.mono (Nat.le_succ w.heap.size))); clear ho hb hgr hat))
            go_roundw
            case rel => exact ⟨pos + (Utf8.decode a0 pos).2, _, hw2, HI1, HB1, HN, HO1⟩
            case measure =>
              have hq : w1.iterPos w.heap.size = pos + (Utf8.decode a0 pos).2 := iterPos_of HI1.out
              rw [hq, HP0.out]
              omega
        · have he : fold_rune ((Utf8.decode a0 pos).1 : Int) = ((Utf8.decode a0 pos).1 : Int) := by unfold fold_rune; rw [if_neg (fun hh => h1 hh.1)]
          rw [he] at HN
          clear he
          go_wp2_with (first | ((with_reducible refine gate_builtin (b := .append) (xs := #[.tmp 19, .tmp 21]) rfl ?_); at_builtin; refine Kd.R_append (Kd.int .i32) (w0 := wr.iterAt w.heap.size a0 (pos + (Utf8.decode a0 pos).2)) (w.heap.size + 1) rfl (.tmp 19) (.tmp 21) 46 21 (.int .i32 0) 4 rfl underlying46 info21 rfl (by decide) (by omega) _ acc (((Utf8.decode a0 pos).1 : Int)) [.int .i32 (((Utf8.decode a0 pos).1 : Int))] (fun _ => True) (fun _ => False) rfl rfl ?aP (fun _ hk => hk.elim) ?aF ?aO ?aB ?aS ?aL ?_; (case aP => exact rfl); (case aB => exact Below.refl _ _); (case aF => exact (fun _ _ => trivial)); (case aO => exact HOI.out); (case aS => exact HSZ.out); (case aL => have := HL.out; omega); intro v1 w1 ho hb hgr hat; have HO1 := Aside0.mk ho; have HI1 := Aside0.mk ((hb.block _ (Nat.lt_succ_self w.heap.size)).trans HIT.out); have HB1 := Aside0.mk (HBIT.out.trans (hb.mono (Nat.le_succ w.heap.size))); clear ho hb hgr hat))
          go_roundw
          case rel => exact ⟨pos + (Utf8.decode a0 pos).2, _, hw2, HI1, HB1, HN, HO1⟩
          case measure =>
            have hq : w1.iterPos w.heap.size = pos + (Utf8.decode a0 pos).2 := iterPos_of HI1.out
            rw [hq, HP0.out]
            omega
      · have hnx : ∀ ty, (Instr.next (.pointer (some ⟨w.heap.size, 0, none⟩)) true ty).run Tryd.prog wr = _ := fun ty => Lib.run_next_end_at wr w.heap.size a0 pos ty HI.out hp
        obtain rfl := HA.out.done hp
        have hcv := runes_convert HO.out
        clear HA HO
        go_wp2
        go_ret
        exact ⟨rfl, HB.out⟩
  · rw [if_neg hs] at h
    cases h
end Go.Proofs.YtlhemachmidoaaaDoor.P
