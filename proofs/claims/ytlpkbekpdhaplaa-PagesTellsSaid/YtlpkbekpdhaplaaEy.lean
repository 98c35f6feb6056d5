/- pages' layout: one object laid. -/
import Derived.Test.YtlpkbekpdhaplaaP6
import Derived.WalkSpells
import Derived.WalkSmall
import Derived.LoopTactic
import Derived.Outline
import Derived.StillTailTactics
import Derived.RegionTactic
import Derived.BigRegion
import Derived.Laws.Bits64b
namespace Go.Proofs.Ytlpkbekpdhaplaa.P
open Go.RowKit Go.Proofs.YtlpkbekpdhaplaaW.PrintWords Go.Proofs.YtlpkbekpdhaplaaW.PrintLast Go.Proofs.YtlpkbekpdhaplaaW.PrintMore
set_option linter.unusedVariables false
set_option linter.unusedSimpArgs false

/-- w' is w but for two blocks, and new ones. -/
structure Two (gy gk : Nat) (w w' : World) : Prop where
  os : w'.os = w.os
  tape : w'.tape = w.tape
  output : w'.output = w.output
  size : w.heap.size ≤ w'.heap.size
  block : ∀ k, k < w.heap.size → k ≠ gy → k ≠ gk → w'.heap[k]? = w.heap[k]?
theorem Two.refl (gy gk : Nat) (w : World) : Two gy gk w w := ⟨rfl, rfl, rfl, Nat.le_refl _, fun _ _ _ _ => rfl⟩
theorem Two.trans {gy gk : Nat} {a b c : World} (h : Two gy gk a b) (k : Two gy gk b c) : Two gy gk a c :=
  ⟨k.os.trans h.os, k.tape.trans h.tape, k.output.trans h.output, Nat.le_trans h.size k.size, fun i hi h1 h2 => (k.block i (Nat.lt_of_lt_of_le hi h.size) h1 h2).trans (h.block i hi h1 h2)⟩
theorem Two.of_below {gy gk : Nat} {w w' : World} (h : Below w.heap.size w w') : Two gy gk w w' := ⟨h.os, h.tape, h.output, h.size, fun i hi _ _ => h.block i hi⟩
theorem Two.drewN {gy gk : Nat} {w w' : World} (h : Two gy gk w w') (n : Nat) : Two gy gk w (w'.drewN n) := ⟨h.os, h.tape, h.output, h.size, h.block⟩
theorem Two.set {gy gk : Nat} {w w' : World} (h : Two gy gk w w') {g : Nat} (hg : g = gy ∨ g = gk) (i : Nat) (v : Value) : Two gy gk w (w'.setCell ⟨g, i, none⟩ v) :=
  h.trans ⟨rfl, rfl, rfl, by simp [World.setCell], fun k hk h1 h2 => Below.heap_setCell _ _ _ _ (by rcases hg with rfl | rfl <;> assumption)⟩
theorem Two.below {gy gk B : Nat} {w w' : World} (h : Two gy gk w w') (hB : B ≤ w.heap.size) (h1 : B ≤ gy) (h2 : B ≤ gk) : Below B w w' :=
  ⟨h.os, h.tape, h.output, h.size, fun k hk => h.block k (by omega) (by omega) (by omega)⟩
/-- The layout in memory: each page's kind, and the cells that are taken, as bits. -/
def LayV (gk n : Nat) (cs : List Nat) : Array Value := (Value.slice (some ⟨gk, 0, none⟩) n n :: cs.map fun (c : Nat) => Value.int .u64 (c : Int)).toArray
structure Lay (W : World) (gy gk : Nat) (ks : List Int) (cs : List Nat) : Prop where
  y : W.heap[gy]? = some (.cells (LayV gk ks.length cs) 64 (0, 0))
  k : W.heap[gk]? = some (.cells (encs (Value.int .i64) ks).toArray 3 (0, 0))
  ne : gy ≠ gk
  lc : cs.length = 64
  lk : ks.length ≤ 64
  bd : ∀ c ∈ cs, c < 18446744073709551616
theorem Lay.head {W : World} {gy gk : Nat} {ks : List Int} {cs : List Nat} (h : Lay W gy gk ks cs) : W.cell? ⟨gy, 0, none⟩ = some (.slice (some ⟨gk, 0, none⟩) ks.length ks.length) := (blk_cell h.y 0).trans rfl
theorem Lay.cell {W : World} {gy gk : Nat} {ks : List Int} {cs : List Nat} (h : Lay W gy gk ks cs) (p : Nat) (hp : p < 64) : W.cell? ⟨gy, 1 + p, none⟩ = some (.int .u64 ((cs.getD p 0 : Nat) : Int)) := by
  rw [blk_cell h.y (1 + p), LayV, List.getElem?_toArray, Nat.add_comm 1 p, List.getElem?_cons_succ, List.getElem?_map, List.getElem?_eq_getElem (by rw [h.lc]; exact hp), List.getD_eq_getElem?_getD, List.getElem?_eq_getElem (by rw [h.lc]; exact hp)]
  rfl
theorem Lay.kind {W : World} {gy gk : Nat} {ks : List Int} {cs : List Nat} (h : Lay W gy gk ks cs) (p : Nat) (hp : p < ks.length) : W.cell? ⟨gk, p, none⟩ = some (.int .i64 (ks.getD p 0)) := by
  rw [blk_cell h.k p, List.getElem?_toArray]
  exact encs_get ks p hp
theorem Lay.fy {W : World} {gy gk : Nat} {ks : List Int} {cs : List Nat} (h : Lay W gy gk ks cs) (i : Nat) : W.frozen? ⟨gy, i, none⟩ = false := blk_frozen h.y i
theorem Lay.fk {W : World} {gy gk : Nat} {ks : List Int} {cs : List Nat} (h : Lay W gy gk ks cs) (i : Nat) : W.frozen? ⟨gk, i, none⟩ = false := blk_frozen h.k i
theorem Lay.same {W W' : World} {gy gk : Nat} {ks : List Int} {cs : List Nat} (h : Lay W gy gk ks cs) (e1 : W'.heap[gy]? = W.heap[gy]?) (e2 : W'.heap[gk]? = W.heap[gk]?) : Lay W' gy gk ks cs := ⟨e1.trans h.y, e2.trans h.k, h.ne, h.lc, h.lk, h.bd⟩
theorem Lay.below {W W' : World} {gy gk : Nat} {ks : List Int} {cs : List Nat} (h : Lay W gy gk ks cs) (hb : Below W.heap.size W W') : Lay W' gy gk ks cs := h.same (hb.block _ (blk_lt h.y)) (hb.block _ (blk_lt h.k))
theorem Lay.drewN {W : World} {gy gk : Nat} {ks : List Int} {cs : List Nat} (h : Lay W gy gk ks cs) (n : Nat) : Lay (W.drewN n) gy gk ks cs := h.same rfl rfl
theorem Lay.alloc {W : World} {gy gk : Nat} {ks : List Int} {cs : List Nat} (h : Lay W gy gk ks cs) (o : Obj) : Lay (W.alloc o) gy gk ks cs := h.below (below_alloc (Below.refl _ _) o)
theorem Lay.setCells {W : World} {gy gk : Nat} {ks : List Int} {cs : List Nat} (h : Lay W gy gk ks cs) (p : Nat) (c : Nat) (hc : c < 18446744073709551616) : Lay (W.setCell ⟨gy, 1 + p, none⟩ (.int .u64 (c : Int))) gy gk ks (cs.set p c) := by
  refine ⟨(blk_set h.y (1 + p) _).trans ?_, (Below.heap_setCell _ _ _ _ (fun e => h.ne e.symm)).trans h.k, h.ne, by rw [List.length_set]; exact h.lc, h.lk, fun x hx => ?_⟩
  · congr 2
    unfold LayV
    rw [List.setIfInBounds_toArray, Nat.add_comm 1 p, List.set_cons_succ, List.map_set]
  · rcases List.mem_or_eq_of_mem_set hx with h1 | rfl
    · exact h.bd _ h1
    · exact hc
theorem Lay.setKind {W : World} {gy gk : Nat} {ks : List Int} {cs : List Nat} (h : Lay W gy gk ks cs) (p : Nat) (c : Int) : Lay (W.setCell ⟨gk, p, none⟩ (.int .i64 c)) gy gk (ks.set p c) cs := by
  refine ⟨(Below.heap_setCell _ _ _ _ h.ne).trans ?_, (blk_set h.k p _).trans ?_, h.ne, h.lc, by rw [List.length_set]; exact h.lk, h.bd⟩
  · rw [List.length_set]; exact h.y
  · congr 2
    unfold encs
    rw [List.setIfInBounds_toArray, List.map_set]
/-- Two stores, into the kinds and the cells, in either order. -/
def spotV (p : Nat) (ct : Int) (sm : Bool) (cl : Int) (ce : Nat) : Value := .agg #[.int .i64 p, .int .i64 ct, .bool sm, .int .i64 cl, .int .i64 ce]
theorem bit_lt {ce : Nat} (h : ce < 64) : 2 ^ ce < 18446744073709551616 := Nat.lt_of_lt_of_le (Nat.pow_lt_pow_right (by decide) h) (by decide)
theorem bit_wrap {ce : Nat} (h : ce < 64) : IntKind.u64.wrap (2 ^ ce) = ((2 ^ ce : Nat) : Int) := by
  have h1 := bit_lt h
  have h2 : ((2 : Int) ^ ce) = ((2 ^ ce : Nat) : Int) := by rw [Int.natCast_pow]; rfl
  rw [h2]
  generalize 2 ^ ce = b at h1
  unfold IntKind.wrap
  simp [IntKind.signed, IntKind.bits]
  omega
set_option maxRecDepth 100000 in
set_option maxHeartbeats 1000000 in
theorem lay_same (gy gk : Nat) (ks : List Int) (cs : List Nat) (p : Nat) (ct cl : Int) (ce : Nat) (w : World) (h : Lay w gy gk ks cs) (hp : p < ks.length) (hce : ce < 64) (hk : (ks.getD p 0 == cl) = true) (hfree : (cs.getD p 0 &&& 2 ^ ce) = 0) :
    Calls Try.prog 50 #[.pointer (some ⟨gy, 0, none⟩), .agg #[.int .i64 p, .int .i64 ct, .bool true, .int .i64 cl, .int .i64 ce]] w fun e w' => e = .returned (.bool true) ∧ Lay w' gy gk ks (cs.set p (cs.getD p 0 ||| 2 ^ ce)) ∧ Two gy gk w w' := by
  have h0 := h.head
  have h1 := h.cell p (by have := h.lk; omega)
  have h2 := h.kind p hp
  have hlk := h.lk
  have hgy := blk_lt h.y
  have hgk := blk_lt h.k
  have f1 := h.fy (1 + p)
  have hcb : cs.getD p 0 < 18446744073709551616 := by
    rw [List.getD_eq_getElem?_getD, List.getElem?_eq_getElem (by rw [h.lc]; omega)]
    exact h.bd _ (List.getElem_mem _)
  have hbw := bit_wrap hce
  have hbl := bit_lt hce
  have HOB := Aside0.mk (Nat.or_lt_two_pow (n := 64) hcb hbl)
  have hor := bits_or_u64_nat _ _ hcb hbl
  have hand := bits_and_u64_nat _ _ hcb hbl
  rw [hfree] at hand
  generalize hc : cs.getD p 0 = c at h1 hor hand HOB ⊢
  generalize hbt : 2 ^ ce = bt at hbw hor hand HOB ⊢
  generalize ks.getD p 0 = kk at h2 hk
  have HL := Aside0.mk h
  clear h hc hbl hbt hcb hfree
  go_enter Try.func50, Try.ntmps50
  go_wp2
  go_quiet (fail)
  go_wp2
  go_region
  go_wp2
  go_ret
  refine ⟨rfl, ?_, ?_⟩
  · exact ((HL.out.alloc _).drewN _).setCells p _ HOB.out
  · exact ((Two.of_below (below_alloc (Below.refl _ _) _)).drewN _).set (.inl rfl) _ _
set_option maxRecDepth 100000 in
set_option maxHeartbeats 1000000 in
theorem lay_new (gy gk : Nat) (ks : List Int) (cs : List Nat) (p : Nat) (ct cl : Int) (ce : Nat) (w : World) (h : Lay w gy gk ks cs) (hp : p < ks.length) (hce : ce < 64) (hk : (ks.getD p 0 == cl) = false) (hf : (ks.getD p 0 == -1) = true) :
    Calls Try.prog 50 #[.pointer (some ⟨gy, 0, none⟩), .agg #[.int .i64 p, .int .i64 ct, .bool true, .int .i64 cl, .int .i64 ce]] w fun e w' => e = .returned (.bool true) ∧ Lay w' gy gk (ks.set p cl) (cs.set p (2 ^ ce)) ∧ Two gy gk w w' := by
  have h0 := h.head
  have h1 := h.cell p (by have := h.lk; omega)
  have h2 := h.kind p hp
  have hlk := h.lk
  have hgy := blk_lt h.y
  have hgk := blk_lt h.k
  have f1 := h.fy (1 + p)
  have f2 := h.fk p
  have hcb : cs.getD p 0 < 18446744073709551616 := by
    rw [List.getD_eq_getElem?_getD, List.getElem?_eq_getElem (by rw [h.lc]; omega)]
    exact h.bd _ (List.getElem_mem _)
  have hbw := bit_wrap hce
  have hbl := bit_lt hce
  have HNE := Aside0.mk h.ne
  have HNE2 := Aside0.mk (fun e : gk = gy => h.ne e.symm)
  generalize hc : cs.getD p 0 = c at h1
  generalize hbt : 2 ^ ce = bt at hbw hbl ⊢
  generalize ks.getD p 0 = kk at h2 hk hf
  have HBL := Aside0.mk hbl
  have HL := Aside0.mk h
  clear h hc hbl hbt hcb
  go_enter Try.func50, Try.ntmps50
  go_wp2
  go_quiet (fail)
  go_wp2
  go_quiet (fail)
  go_wp2
  go_region
  go_wp2
  go_ret
  refine ⟨rfl, ?_, ?_⟩
  · first
      | exact (((HL.out.alloc _).drewN _).setKind p cl).setCells p _ HBL.out
      | exact (((HL.out.alloc _).drewN _).setCells p _ HBL.out).setKind p cl
  · first
      | exact (((Two.of_below (below_alloc (Below.refl _ _) _)).drewN _).set (.inr rfl) _ _).set (.inl rfl) _ _
      | exact (((Two.of_below (below_alloc (Below.refl _ _) _)).drewN _).set (.inl rfl) _ _).set (.inr rfl) _ _
set_option maxRecDepth 100000 in
set_option maxHeartbeats 1000000 in
theorem lay_taken (gy gk : Nat) (ks : List Int) (cs : List Nat) (p : Nat) (ct cl : Int) (ce : Nat) (w : World) (h : Lay w gy gk ks cs) (hp : p < ks.length) (hce : ce < 64) (hk : (ks.getD p 0 == cl) = true) (hf : (ks.getD p 0 == -1) = false) (hz : cs.getD p 0 &&& 2 ^ ce ≠ 0) :
    Calls Try.prog 50 #[.pointer (some ⟨gy, 0, none⟩), .agg #[.int .i64 p, .int .i64 ct, .bool true, .int .i64 cl, .int .i64 ce]] w fun e w' => e = .returned (.bool false) ∧ Two gy gk w w' := by
  have h0 := h.head
  have h1 := h.cell p (by have := h.lk; omega)
  have h2 := h.kind p hp
  have hlk := h.lk
  have hgy := blk_lt h.y
  have hgk := blk_lt h.k
  have f1 := h.fy (1 + p)
  have f2 := h.fk p
  have hcb : cs.getD p 0 < 18446744073709551616 := by
    rw [List.getD_eq_getElem?_getD, List.getElem?_eq_getElem (by rw [h.lc]; omega)]
    exact h.bd _ (List.getElem_mem _)
  have hbw := bit_wrap hce
  have hbl := bit_lt hce
  have hand := bits_and_u64_nat _ _ hcb hbl
  have hnz : (bits .and .u64 ((cs.getD p 0 : Nat) : Int) ((2 ^ ce : Nat) : Int) == 0) = false := by
    rw [hand, beq_eq_false_iff_ne]
    intro e
    exact hz (by omega)
  clear hand hz
  generalize hc : cs.getD p 0 = c at h1 hnz
  generalize hbt : 2 ^ ce = bt at hbw hnz
  generalize ks.getD p 0 = kk at h2 hk hf
  clear h hc hbl hbt hcb
  go_enter Try.func50, Try.ntmps50
  go_wp2
  go_quiet (fail)
  go_wp2
  go_quiet (fail)
  go_wp2
  go_ret
  exact ⟨rfl, (Two.of_below (below_alloc (Below.refl _ _) _)).drewN _⟩
set_option maxRecDepth 100000 in
set_option maxHeartbeats 1000000 in
theorem lay_other (gy gk : Nat) (ks : List Int) (cs : List Nat) (p : Nat) (ct cl : Int) (ce : Nat) (w : World) (h : Lay w gy gk ks cs) (hp : p < ks.length) (hce : ce < 64) (hk : (ks.getD p 0 == cl) = false) (hf : (ks.getD p 0 == -1) = false) :
    Calls Try.prog 50 #[.pointer (some ⟨gy, 0, none⟩), .agg #[.int .i64 p, .int .i64 ct, .bool true, .int .i64 cl, .int .i64 ce]] w fun e w' => e = .returned (.bool false) ∧ Two gy gk w w' := by
  have h0 := h.head
  have h1 := h.cell p (by have := h.lk; omega)
  have h2 := h.kind p hp
  have hlk := h.lk
  have hgy := blk_lt h.y
  have hgk := blk_lt h.k
  have f1 := h.fy (1 + p)
  have f2 := h.fk p
  have hcb : cs.getD p 0 < 18446744073709551616 := by
    rw [List.getD_eq_getElem?_getD, List.getElem?_eq_getElem (by rw [h.lc]; omega)]
    exact h.bd _ (List.getElem_mem _)
  have hbw := bit_wrap hce
  have hbl := bit_lt hce
  generalize hc : cs.getD p 0 = c at h1
  generalize hbt : 2 ^ ce = bt at hbw
  generalize ks.getD p 0 = kk at h2 hk hf
  clear h hc hbl hbt hcb
  go_enter Try.func50, Try.ntmps50
  go_wp2
  go_quiet (fail)
  go_wp2
  go_quiet (fail)
  go_wp2
  go_ret
  exact ⟨rfl, (Two.of_below (below_alloc (Below.refl _ _) _)).drewN _⟩
/-- The kinds of k pages behind p are those of further pages. -/
def fillK (ks : List Int) (p : Nat) : Nat → List Int
  | 0 => ks
  | k + 1 => (fillK ks p k).set (p + k) 7
theorem fillK_length (ks : List Int) (p : Nat) : ∀ k, (fillK ks p k).length = ks.length
  | 0 => rfl
  | k + 1 => by show ((fillK ks p k).set (p + k) 7).length = _; rw [List.length_set, fillK_length ks p k]
theorem fillK_get (ks : List Int) (p : Nat) : ∀ (k i : Nat), (fillK ks p k).getD i 0 = if p ≤ i ∧ i < p + k ∧ i < ks.length then 7 else ks.getD i 0
  | 0, i => by rw [if_neg (by omega)]; rfl
  | k + 1, i => by
    show ((fillK ks p k).set (p + k) 7).getD i 0 = _
    rw [List.getD_eq_getElem?_getD, List.getElem?_set]
    by_cases h : p + k = i
    · rw [if_pos h, fillK_length]
      by_cases h2 : p + k < ks.length
      · rw [if_pos h2, if_pos (by omega)]; rfl
      · rw [if_neg h2, if_neg (by omega), List.getD_eq_getElem?_getD, List.getElem?_eq_none (by omega)]
    · rw [if_neg h, ← List.getD_eq_getElem?_getD, fillK_get ks p k i]
      by_cases h2 : p ≤ i ∧ i < p + k ∧ i < ks.length
      · rw [if_pos h2, if_pos (by omega)]
      · rw [if_neg h2, if_neg (by omega)]
def freeK (ks : List Int) (p : Nat) : Nat → Bool
  | 0 => true
  | k + 1 => freeK ks p k && ks.getD (p + k) 0 == -1
theorem freeK_lt {ks : List Int} {p : Nat} : ∀ {k i : Nat}, freeK ks p k = true → i < k → ks.getD (p + i) 0 = -1
  | k + 1, i, h, hi => by
    simp only [freeK, Bool.and_eq_true, beq_iff_eq] at h
    by_cases e : i = k
    · rw [e]; exact h.2
    · exact freeK_lt h.1 (by omega)
theorem freeK_no {ks : List Int} {p : Nat} : ∀ {k i : Nat}, i < k → (ks.getD (p + i) 0 == -1) = false → freeK ks p k = false
  | k + 1, i, hi, h => by
    simp only [freeK]
    by_cases e : i = k
    · rw [← e, h, Bool.and_false]
    · rw [freeK_no (k := k) (i := i) (by omega) h, Bool.false_and]
set_option maxRecDepth 100000 in
set_option maxHeartbeats 1000000 in
theorem lay_long (gy gk : Nat) (ks : List Int) (cs : List Nat) (p ct : Nat) (cl : Int) (ce : Nat) (w : World) (h : Lay w gy gk ks cs) (hp : p < ks.length) (hct : p + ct ≤ ks.length) (hce : ce < 64) :
    Calls Try.prog 50 #[.pointer (some ⟨gy, 0, none⟩), .agg #[.int .i64 p, .int .i64 ct, .bool false, .int .i64 cl, .int .i64 ce]] w fun e w' => e = .returned (.bool (freeK ks p ct)) ∧ (freeK ks p ct = true → Lay w' gy gk ((fillK ks p ct).set p 6) cs) ∧ Two gy gk w w' := by
  have hlk := h.lk
  have hgy := blk_lt h.y
  have hgk := blk_lt h.k
  have h0 := h.head
  have hbw := bit_wrap hce
  generalize 2 ^ ce = bt at hbw
  have HL := Aside0.mk h
  clear h
  go_enter Try.func50, Try.ntmps50
  go_wp2
  go_quiet (fail)
  go_wp2
  go_quiet (fail)
  go_wp2
  go_loopw [85] (fun v85 wr => ∃ k : Nat, v85 = .int .i64 k ∧ k ≤ ct ∧ Aside0 (freeK ks p k = true) ∧ Aside0 (Lay wr gy gk (fillK ks p k) cs) ∧ Aside0 (wr.heap[w.heap.size]? = some (.cells #[.int .i64 p, .int .i64 ct, .bool false, .int .i64 cl, .int .i64 ce] 74 (0, 0))) ∧ Aside0 (Two gy gk w wr)) (fun v85 _ => ct - (intOf v85).toNat)
  case atStart => exact ⟨0, rfl, Nat.zero_le _, ⟨rfl⟩, ⟨(HL.out.alloc _).drewN _⟩, ⟨blk_drewN (blk_new _ _) _⟩, ⟨(Two.of_below (below_alloc (Below.refl _ _) _)).drewN _⟩⟩
  case round =>
    obtain ⟨k, rfl, hk, HF, HLk, HG, HT⟩ := hrel
    have s0 : wr.cell? ⟨w.heap.size, 0, none⟩ = some (.int .i64 p) := (blk_cell HG.out 0).trans rfl
    have h0 := HLk.out.head
    rw [fillK_length] at h0
    by_cases hlt : k < ct
    · have hkind := HLk.out.kind (p + k) (by rw [fillK_length]; omega)
      rw [fillK_get, if_neg (by omega)] at hkind
      have hsum : IntKind.i64.wrap ((p : Int) + (k : Int)) = (p : Int) + (k : Int) := by rw [i64_w]; unfold wrap64; omega
      have b0 : (0 : Int) ≤ (p : Int) + (k : Int) := by omega
      have b1 : (p : Int) + (k : Int) < ks.length := by omega
      have b2 : ((p : Int) + (k : Int)).toNat = p + k := by omega
      have b3 : p + k < ks.length := by omega
      have hfz := HLk.out.fk (p + k)
      cases hc : (ks.getD (p + k) 0 == -1) with
      | true =>
        have HE := Aside0.mk (show freeK ks p (k + 1) = true by simp only [freeK, HF.out, hc]; rfl)
        have hcn : (ks.getD (p + k) 0 != -1) = false := by rw [bne, hc]; rfl
        generalize ks.getD (p + k) 0 = kk at hkind hc hcn
        go_wp2
        go_quiet (fail)
        go_wp2
        go_region
        go_wp2
        go_roundw
        case rel =>
          refine ⟨k + 1, by go_num, hlt, HE, ⟨?_⟩, ⟨?_⟩, ⟨?_⟩⟩
          · exact (HLk.out.drewN _).setKind (p + k) 7
          · exact blk_far (blk_drewN HG.out _) (fun e => by simp only at e; omega) _
          · exact (HT.out.drewN _).set (.inr rfl) _ _
        case measure => simp [intOf]; omega
      | false =>
        have HE := Aside0.mk (freeK_no (k := ct) hlt hc)
        have hcn : (ks.getD (p + k) 0 != -1) = true := by rw [bne, hc]; rfl
        generalize ks.getD (p + k) 0 = kk at hkind hc hcn
        go_wp2
        go_quiet (fail)
        go_wp2
        go_ret
        rw [HE.out]
        exact ⟨rfl, (fun z => Bool.noConfusion z), HT.out.drewN _⟩
    · obtain rfl : k = ct := by omega
      have hfz := HLk.out.fk p
      have hkp := HLk.out.kind p (by rw [fillK_length]; exact hp)
      go_wp2
      go_region
      go_wp2
      go_ret
      rw [HF.out]
      exact ⟨rfl, (fun _ => (HLk.out.drewN _).setKind p 6), (HT.out.drewN _).set (.inr rfl) _ _⟩
/-! ### (*pages.layout).lay, whole -/
abbrev SpotT := Int × Int × Bool × Int × Int × Bool
def layOf (s : SpotT) (ks : List Int) (cs : List Nat) : Option (List Int × List Nat) :=
  if s.2.2.1 = true then
    if rd ks s.1 = s.2.2.2.1 ∧ cs.getD s.1.toNat 0 &&& 2 ^ s.2.2.2.2.1.toNat = 0 then some (ks, cs.set s.1.toNat (cs.getD s.1.toNat 0 ||| 2 ^ s.2.2.2.2.1.toNat))
    else if rd ks s.1 = -1 then some (ks.set s.1.toNat s.2.2.2.1, cs.set s.1.toNat (2 ^ s.2.2.2.2.1.toNat))
    else none
  else if freeK ks s.1.toNat s.2.1.toNat = true then some ((fillK ks s.1.toNat s.2.1.toNat).set s.1.toNat 6, cs) else none
/-- A spot that lies within the pages. -/
structure SpotIn (s : SpotT) (n : Nat) : Prop where
  p0 : 0 ≤ s.1
  p1 : s.1 < n
  c0 : 0 ≤ s.2.1
  c1 : s.1 + s.2.1 ≤ n
  e0 : 0 ≤ s.2.2.2.2.1
  e1 : s.2.2.2.2.1 < 64
  k0 : 0 ≤ s.2.2.2.1
def encS (s : SpotT) : Value := .agg #[.int .i64 s.1, .int .i64 s.2.1, .bool s.2.2.1, .int .i64 s.2.2.2.1, .int .i64 s.2.2.2.2.1]
theorem lay_calls (gy gk : Nat) (ks : List Int) (cs : List Nat) (s : SpotT) (w : World) (h : Lay w gy gk ks cs) (hs : SpotIn s ks.length) :
    Calls Try.prog 50 #[.pointer (some ⟨gy, 0, none⟩), encS s] w fun e w' => e = .returned (.bool (layOf s ks cs).isSome) ∧ (∀ r, layOf s ks cs = some r → Lay w' gy gk r.1 r.2) ∧ Two gy gk w w' := by
  obtain ⟨p, ct, sm, cl, ce, is⟩ := s
  obtain ⟨p0, p1, c0, c1, e0, e1, k0⟩ := hs
  simp only at p0 p1 c0 c1 e0 e1 k0
  obtain ⟨p, rfl⟩ : ∃ q : Nat, p = (q : Int) := ⟨p.toNat, by omega⟩
  obtain ⟨ct, rfl⟩ : ∃ q : Nat, ct = (q : Int) := ⟨ct.toNat, by omega⟩
  obtain ⟨ce, rfl⟩ : ∃ q : Nat, ce = (q : Int) := ⟨ce.toNat, by omega⟩
  have hpl : p < ks.length := by omega
  unfold layOf encS
  simp only [Int.toNat_natCast]
  cases sm with
  | true =>
    rw [if_pos rfl]
    have hrd : rd ks (p : Int) = ks.getD p 0 := by unfold rd; rw [Int.toNat_natCast]
    rw [hrd]
    by_cases h1 : ks.getD p 0 = cl
    · by_cases h2 : cs.getD p 0 &&& 2 ^ ce = 0
      · rw [if_pos ⟨h1, h2⟩]
        exact (lay_same gy gk ks cs p ct cl ce w h hpl (by omega) (by rw [h1]; exact beq_self_eq_true _) h2).mono fun e w' ⟨a1, a2, a3⟩ => ⟨a1, (fun r hr => by obtain rfl := Option.some.inj hr; exact a2), a3⟩
      · rw [if_neg (fun z => h2 z.2), if_neg (by omega)]
        exact (lay_taken gy gk ks cs p ct cl ce w h hpl (by omega) (by rw [h1]; exact beq_self_eq_true _) (beq_eq_false_iff_ne.2 (by omega)) h2).mono fun e w' ⟨a1, a3⟩ => ⟨a1, (fun r hr => by cases hr), a3⟩
    · rw [if_neg (fun z => h1 z.1)]
      by_cases h2 : ks.getD p 0 = -1
      · rw [if_pos h2]
        exact (lay_new gy gk ks cs p ct cl ce w h hpl (by omega) (beq_eq_false_iff_ne.2 h1) (by rw [h2]; rfl)).mono fun e w' ⟨a1, a2, a3⟩ => ⟨a1, (fun r hr => by obtain rfl := Option.some.inj hr; exact a2), a3⟩
      · rw [if_neg h2]
        exact (lay_other gy gk ks cs p ct cl ce w h hpl (by omega) (beq_eq_false_iff_ne.2 h1) (beq_eq_false_iff_ne.2 h2)).mono fun e w' ⟨a1, a3⟩ => ⟨a1, (fun r hr => by cases hr), a3⟩
  | false =>
    rw [if_neg (by decide)]
    refine (lay_long gy gk ks cs p ct cl ce w h hpl (by omega) (by omega)).mono fun e w' ⟨a1, a2, a3⟩ => ?_
    by_cases hf : freeK ks p ct = true
    · rw [if_pos hf]
      rw [hf] at a1
      exact ⟨a1, (fun r hr => by obtain rfl := Option.some.inj hr; exact a2 hf), a3⟩
    · rw [if_neg hf]
      rw [Bool.not_eq_true] at hf
      rw [hf] at a1
      exact ⟨a1, (fun r hr => by cases hr), a3⟩
end Go.Proofs.Ytlpkbekpdhaplaa.P
