/- pages.laid: the layout of objects. -/
import Derived.Test.YtlpkbekpdhaplaaEx
namespace Go.Proofs.Ytlpkbekpdhaplaa.P
open Go.RowKit Go.Shelf Go.Proofs.YtlpkbekpdhaplaaW.PrintWords Go.Proofs.YtlpkbekpdhaplaaW.PrintLast Go.Proofs.YtlpkbekpdhaplaaW.PrintMore
attribute [local go_sem] Oper.semAt_some
set_option linter.unusedVariables false
set_option linter.unusedSimpArgs false

/-- Further objects laid. -/
def layAll (n : Int) : List S44 → List Int × List Nat → Option (List Int × List Nat)
  | [], st => some st
  | o :: r, st => if (spotv n o.f0 o.f1).2.2.2.2.2 = true then (layOf (spotv n o.f0 o.f1) st.1 st.2).bind (layAll n r) else none
def laid (n : Int) (l : List S44) : Option (List Int × List Nat) := if 0 ≤ n ∧ n ≤ 64 then layAll n l (List.replicate n.toNat (-1), List.replicate 64 0) else none
theorem layAll_append (n : Int) : ∀ (a b : List S44) (st : List Int × List Nat), layAll n (a ++ b) st = (layAll n a st).bind (layAll n b)
  | [], b, st => rfl
  | o :: a, b, st => by
    simp only [List.cons_append, layAll]
    split
    · cases layOf (spotv n o.f0 o.f1) st.1 st.2 with
      | none => rfl
      | some st' => exact layAll_append n a b st'
    · rfl
theorem layOf_length {s : SpotT} {ks : List Int} {cs : List Nat} {r : List Int × List Nat} (h : layOf s ks cs = some r) : r.1.length = ks.length ∧ r.2.length = cs.length := by
  unfold layOf at h
  split at h
  · split at h
    · obtain rfl := Option.some.inj h; exact ⟨rfl, List.length_set⟩
    · split at h
      · obtain rfl := Option.some.inj h; exact ⟨List.length_set, List.length_set⟩
      · cases h
  · split at h
    · obtain rfl := Option.some.inj h; exact ⟨by rw [List.length_set, fillK_length], rfl⟩
    · cases h
set_option maxRecDepth 100000 in
theorem laid_not (n : Int) (A : Option Addr) (len c : Nat) (w : World) (hn : n < 0 ∨ 64 < n) :
    Calls Try.prog 44 #[.int .i64 n, .slice A len c] w fun e w' => e = .returned (.tuple #[.pointer none, .bool false]) ∧ Below w.heap.size w w' := by
  rcases hn with hn | hn
  · refine (callsIn_wide (n := 6)).1 ?_
    refine callsIn_of_wp_marks Try.func44 rfl trivial ?_ rfl
    simp only [Try.ntmps44, List.size_toArray, List.length_cons, List.length_nil, Nat.reduceAdd, Nat.reduceSub, Array.replicate_succ, Array.replicate_zero, List.push_toArray, List.append_toArray, List.nil_append, List.cons_append]
    gi_wp2
    exact ⟨.tuple #[.pointer none, .bool false], by simp [results, Try.f44, go_sem], rfl, below_alloc (below_alloc (Below.refl _ _) _) _⟩
  · refine (callsIn_wide (n := 6)).1 ?_
    refine callsIn_of_wp_marks Try.func44 rfl trivial ?_ rfl
    simp only [Try.ntmps44, List.size_toArray, List.length_cons, List.length_nil, Nat.reduceAdd, Nat.reduceSub, Array.replicate_succ, Array.replicate_zero, List.push_toArray, List.append_toArray, List.nil_append, List.cons_append]
    gi_wp2
    exact ⟨.tuple #[.pointer none, .bool false], by simp [results, Try.f44, go_sem], rfl, below_alloc (below_alloc (Below.refl _ _) _) _⟩
theorem run_make_int (N : Nat) (hN : N ≤ 64) (w : World) : (Instr.makeSlice 33 (.int .i64 N) (.int .i64 N)).run Try.prog w = .ok (.slice (some ⟨w.heap.size, 0, none⟩) N N) (w.alloc (.cells (encs (Value.int .i64) (List.replicate N 0)).toArray 3)) := by
  obtain ⟨i0, hi0, hz0, hs0, hb0⟩ := info_parts info3
  have h := run_make (P := Try.prog) (w := w) 33 3 i0 (.int .i64 0) Try.underlying33 hi0 hz0 .i64 .i64 (N : Int) (N : Int) (by omega) (by omega) (by rw [hb0]; omega) (by omega)
  simp only [Int.toNat_natCast] at h
  rw [h, hs0, Nat.mul_one]
  congr 3
  apply Array.ext'
  rw [List.toList_toArray]
  unfold encs madeCells
  simp only [Value.cells, List.map_replicate, Array.toList_ofFn, List.size_toArray, List.length_singleton, Nat.mod_one]
  apply List.ext_getElem
  · simp
  · intro i h1 h2
    simp
section
variable {F : Fence} {n : Nat} {P : Program} {ops : Array Oper} {rest : List Oper} {o : Oper} {a : Act} {w : World} {Q : Exit → Act → World → Prop}
theorem gateIn_dst {N : Tmp} (_hN : o.dst = some N) (h : wpListIn F n P ops Q (o :: rest) a w) : wpListIn F n P ops Q (o :: rest) a w := h
theorem wpListIn_build1 (hg : o.guard = none) (t : TypeId) (j : Nat) (x : Operand) (ho : o.op = .build t #[(j, x)]) (v V : Value) (hx : a.eval x = v) (hV : (Instr.build t #[(j, v)]).run P w = .ok V w)
    (h : wpListIn F n P ops Q rest (a.put o.dst V) w) : wpListIn F n P ops Q (o :: rest) a w := by
  refine wpListIn_plain hg fun K hK => ?_
  unfold Oper.wpIn
  refine ⟨by simp [Oper.about, ho], ?_⟩
  rw [Oper.semAt_plain F _ _ (by rw [ho]; intro c hc; cases hc)]
  have e : (#[(j, x)] : Array (Nat × Operand)).map (fun (i, x) => (i, a.eval x)) = #[(j, v)] := by simp [hx]
  unfold execOp
  simp only [ho, Sem.run_bind, e, hV, Result.andThen_ok]
  exact hK _ _ h
end
theorem build_layout : ∃ yv : Option Addr → Nat → Nat → Array Value, (∀ a n c, yv a n c = (Value.slice a n c :: (List.replicate 64 0).map fun (c : Nat) => Value.int .u64 (c : Int)).toArray) ∧
    (∀ a n c (w : World), (Instr.build 64 #[(0, .slice a n c)]).run Try.prog w = .ok (.agg (yv a n c)) w) ∧ (∀ a n c, yv a n c ≠ #[]) ∧ (∀ a n c, (yv a n c)[0]? = some (.slice a n c)) := by
  refine ⟨fun a n c => (Value.slice a n c :: (List.replicate 64 0).map fun (c : Nat) => Value.int .u64 (c : Int)).toArray, fun _ _ _ => rfl, fun a n c w => by kernel_rfl, fun a n c h => ?_, fun a n c => rfl⟩
  have := congrArg Array.size h
  simp at this
theorem five_blocks (w : World) (o1 o2 o3 o4 o5 : Obj) : ∀ W, W = ((((w.alloc o1).alloc o2).alloc o3).alloc o4).alloc o5 →
    W.heap[w.heap.size]? = some o1 ∧ W.heap[w.heap.size + 1]? = some o2 ∧ W.heap[w.heap.size + 1 + 1]? = some o3 ∧ W.heap[w.heap.size + 1 + 1 + 1]? = some o4 ∧ W.heap[w.heap.size + 1 + 1 + 1 + 1]? = some o5 ∧ Below w.heap.size w W := by
  rintro W rfl
  have h1 := blk_new w o1
  have h2 := blk_new (w.alloc o1) o2
  have h3 := blk_new ((w.alloc o1).alloc o2) o3
  have h4 := blk_new (((w.alloc o1).alloc o2).alloc o3) o4
  have h5 := blk_new ((((w.alloc o1).alloc o2).alloc o3).alloc o4) o5
  simp only [World.size_alloc] at h2 h3 h4 h5
  exact ⟨blk_alloc (blk_alloc (blk_alloc (blk_alloc h1 _) _) _) _, blk_alloc (blk_alloc (blk_alloc h2 _) _) _, blk_alloc (blk_alloc h3 _) _, blk_alloc h4 _, h5, below_alloc (below_alloc (below_alloc (below_alloc (below_alloc (Below.refl _ _) _) _) _) _) _⟩
def initK (N k : Nat) : List Int := List.replicate k (-1) ++ List.replicate (N - k) 0
theorem initK_set {N k : Nat} (h : k < N) : (initK N k).set k (-1) = initK N (k + 1) := by
  unfold initK
  rw [List.set_append_right _ _ (by rw [List.length_replicate]; exact Nat.le_refl _), List.length_replicate, Nat.sub_self, show N - k = (N - (k + 1)) + 1 by omega, List.replicate_succ, List.set_cons_zero, List.replicate_succ']
  simp
theorem initK_length {N k : Nat} (h : k ≤ N) : (initK N k).length = N := by
  unfold initK
  rw [List.length_append, List.length_replicate, List.length_replicate]
  omega
/-- A spot's cells. -/
def cellsS (s : SpotT) : Array Value := #[.int .i64 s.1, .int .i64 s.2.1, .bool s.2.2.1, .int .i64 s.2.2.2.1, .int .i64 s.2.2.2.2.1]
theorem Two.keepsFrom {gy gk B : Nat} {W W' : World} (h : Two gy gk W W') (h1 : gy < B) (h2 : gk < B) : KeepsFrom B W W' :=
  ⟨h.size, fun k o hB hk _ => (h.block k (Array.getElem?_eq_some_iff.1 hk).1 (by omega) (by omega)).trans hk⟩
theorem ptr_set {W : World} {g : Nat} (h : W.heap[g]? = some (.cells #[.pointer none] 58 (0, 0))) : (W.setCell ⟨g, 0, none⟩ (.pointer none)).heap[g]? = some (.cells #[.pointer none] 58 (0, 0)) := blk_put h 0 _ rfl
theorem bool_set {W : World} {g : Nat} {b : Bool} (h : W.heap[g]? = some (.cells #[.bool b] 4 (0, 0))) (b' : Bool) : (W.setCell ⟨g, 0, none⟩ (.bool b')).heap[g]? = some (.cells #[.bool b'] 4 (0, 0)) := blk_put h 0 _ rfl
/-- Between two rounds. -/
def LaidIn (w : World) (N m : Nat) (pre : List ObjI) (W : World) : Prop :=
  m ≤ W.heap.size ∧ ∃ st, layAll N (pre.map (·.1)) (List.replicate N (-1), List.replicate 64 0) = some st ∧ Lay W (w.heap.size + 1 + 1 + 1) (w.heap.size + 1 + 1) st.1 st.2 ∧ st.1.length = N ∧
    W.heap[w.heap.size]? = some (.cells #[.pointer none] 58 (0, 0)) ∧ W.heap[w.heap.size + 1]? = some (.cells #[.bool false] 4 (0, 0)) ∧ W.heap[w.heap.size + 1 + 1 + 1 + 1]? = some (.cells #[.pointer (some ⟨w.heap.size + 1 + 1 + 1, 0, none⟩)] 58 (0, 0)) ∧ Below w.heap.size w W
/-- Where a round has left. -/
def LaidOut (w : World) (N : Nat) (c : Code) (pre : List ObjI) (W : World) : Prop :=
  c = .ret ∧ layAll N (pre.map (·.1)) (List.replicate N (-1), List.replicate 64 0) = none ∧
    W.heap[w.heap.size]? = some (.cells #[.pointer none] 58 (0, 0)) ∧ W.heap[w.heap.size + 1]? = some (.cells #[.bool false] 4 (0, 0)) ∧ Below w.heap.size w W
theorem laidIn_own {w : World} {N m B : Nat} (hB : w.heap.size ≤ B) : OwnFrom B (LaidIn w N m) := by
  rintro s X Y row ⟨hm, st, h1, h2, h3, h4, h5, h6, h7⟩ hg hr
  have hk := fun {k : Nat} {o : Obj} (h : X.heap[k]? = some o) (hc : o.isCells = true) => grownBy_keeps_cells hg (fun r e => (hr r e).2) h hc
  exact ⟨Nat.le_trans hm hg.size, st, h1, h2.same (hk h2.y rfl) (hk h2.k rfl), h3, (hk h4 rfl).trans h4, (hk h5 rfl).trans h5, (hk h6 rfl).trans h6, h7.grown hg h7.size (fun k e => Nat.le_trans hB (hr k e).1)⟩
theorem laidOut_own {w : World} {N B : Nat} (hB : w.heap.size ≤ B) (c : Code) : OwnFrom B (LaidOut w N c) := by
  rintro s X Y row ⟨h1, h2, h4, h5, h7⟩ hg hr
  have hk := fun {k : Nat} {o : Obj} (h : X.heap[k]? = some o) (hc : o.isCells = true) => grownBy_keeps_cells hg (fun r e => (hr r e).2) h hc
  exact ⟨h1, h2, (hk h4 rfl).trans h4, (hk h5 rfl).trans h5, h7.grown hg h7.size (fun k e => Nat.le_trans hB (hr k e).1)⟩
set_option maxRecDepth 100000 in
set_option maxHeartbeats 2000000 in
theorem laid_walk (N : Nat) (A : Option Addr) (c : Nat) (xs : List ObjI) (w : World) (hN : N ≤ 64) (hC : Kd.C k44 w A xs.length (xs.map (·.1))) :
    Calls Try.prog 44 #[.int .i64 N, .slice A xs.length c] w fun e w' =>
      (laid N (xs.map (·.1)) = none ∧ e = .returned (.tuple #[.pointer none, .bool false]) ∧ Below w.heap.size w w') ∨
      ∃ (gy gk : Nat) (st : List Int × List Nat), laid N (xs.map (·.1)) = some st ∧ e = .returned (.tuple #[.pointer (some ⟨gy, 0, none⟩), .bool true]) ∧ Lay w' gy gk st.1 st.2 ∧ st.1.length = N ∧ w.heap.size ≤ gy ∧ w.heap.size ≤ gk ∧ Below w.heap.size w w' := by
  obtain ⟨yv, hyv, hbuild, hyne, hy0⟩ := build_layout
  have HYV := Aside0.mk hyv
  have HC := Aside0.mk hC
  have hmk := run_make_int N hN
  clear hyv hC
  refine (callsIn_wide (n := 6)).1 ?_
  refine callsIn_of_wp_marks Try.func44 rfl trivial ?_ rfl
  simp only [Try.ntmps44, List.size_toArray, List.length_cons, List.length_nil, Nat.reduceAdd, Nat.reduceSub, Array.replicate_succ, Array.replicate_zero, List.push_toArray, List.append_toArray, List.nil_append, List.cons_append]
  gi_wp2_with ((with_reducible refine gateIn_dst (N := 18) rfl ?_); refine wpListIn_build1 rfl 64 0 (.tmp 17) rfl _ (.agg (yv (some ⟨w.heap.size + 1 + 1, 0, none⟩) N N)) rfl (hbuild _ _ _ _) ?_)
  obtain ⟨W5, hW5⟩ : ∃ W, W = ((((w.alloc (.cells #[.pointer none] 58)).alloc (.cells #[.bool false] 4)).alloc (.cells (encs (Value.int .i64) (List.replicate N 0)).toArray 3)).alloc (.cells (yv (some ⟨w.heap.size + 1 + 1, 0, none⟩) N N) 64)).alloc (.cells #[.pointer (some ⟨w.heap.size + 1 + 1 + 1, 0, none⟩)] 58) := ⟨_, rfl⟩
  obtain ⟨q1, q2, q3, q4, q5, q6⟩ := five_blocks w _ _ _ _ _ W5 hW5
  rw [← hW5]
  have HL0 := Aside0.mk (show Lay W5 (w.heap.size + 1 + 1 + 1) (w.heap.size + 1 + 1) (initK N 0) (List.replicate 64 0) from ⟨by rw [initK_length (Nat.zero_le _)]; rw [HYV.out] at q4; exact q4, by unfold initK; exact q3, by omega, by rw [List.length_replicate], by rw [initK_length (Nat.zero_le _)]; exact hN, fun c hc => by rw [List.eq_of_mem_replicate hc]; decide⟩)
  have HQ := Aside0.mk (show W5.heap[w.heap.size]? = some (.cells #[.pointer none] 58 (0, 0)) ∧ W5.heap[w.heap.size + 1]? = some (.cells #[.bool false] 4 (0, 0)) ∧ W5.heap[w.heap.size + 1 + 1 + 1 + 1]? = some (.cells #[.pointer (some ⟨w.heap.size + 1 + 1 + 1, 0, none⟩)] 58 (0, 0)) from ⟨q1, q2, q5⟩)
  have HB5 := Aside0.mk q6
  clear q1 q2 q3 q4 q5 q6 hW5 hbuild hyne hy0 HYV hmk
  gi_loopw [25] (fun v25 wr => ∃ k : Nat, v25 = .int .i64 k ∧ k ≤ N ∧ Aside0 (Lay wr (w.heap.size + 1 + 1 + 1) (w.heap.size + 1 + 1) (initK N k) (List.replicate 64 0)) ∧ Aside0 (wr.heap[w.heap.size]? = some (.cells #[.pointer none] 58 (0, 0)) ∧ wr.heap[w.heap.size + 1]? = some (.cells #[.bool false] 4 (0, 0)) ∧ wr.heap[w.heap.size + 1 + 1 + 1 + 1]? = some (.cells #[.pointer (some ⟨w.heap.size + 1 + 1 + 1, 0, none⟩)] 58 (0, 0))) ∧ Aside0 (Below w.heap.size w wr)) (fun v25 _ => N - (intOf v25).toNat)
  case atStart => exact ⟨0, rfl, Nat.zero_le _, HL0, HQ, HB5⟩
  case round =>
    obtain ⟨k, rfl, hk, HLk, HQk, HBk⟩ := hrel
    by_cases hlt : k < N
    · have h0 := HLk.out.head
      rw [initK_length hk] at h0
      have h2 := HLk.out.kind k (by rw [initK_length hk]; exact hlt)
      have hf := HLk.out.fk k
      have h6 : wr.cell? ⟨w.heap.size + 1 + 1 + 1 + 1, 0, none⟩ = some (.pointer (some ⟨w.heap.size + 1 + 1 + 1, 0, none⟩)) := (blk_cell HQk.out.2.2 0).trans rfl
      generalize (initK N k).getD k 0 = kk at h2
      gi_wp2
      go_roundw
      case rel =>
        refine ⟨k + 1, by go_num, hlt, ⟨?_⟩, ⟨?_, ?_, ?_⟩, ⟨HBk.out.setCell (by simp only; omega) _⟩⟩
        · have h := HLk.out.setKind k (-1)
          rw [initK_set hlt] at h
          exact h
        · exact blk_far HQk.out.1 (by simp only; omega) _
        · exact blk_far HQk.out.2.1 (by simp only; omega) _
        · exact blk_far HQk.out.2.2 (by simp only; omega) _
      case measure => simp [intOf]; omega
    · have hkN : k = N := by omega
      have HL1 := Aside0.mk (show Lay wr (w.heap.size + 1 + 1 + 1) (w.heap.size + 1 + 1) (List.replicate N (-1)) (List.replicate 64 0) by have h := HLk.out; rw [hkN] at h; unfold initK at h; rw [Nat.sub_self, List.replicate_zero, List.append_nil] at h; exact h)
      clear HLk hkN
      gi_wp2_with (refine ⟨trivial, ?_⟩; gi_at_call 49; refine (callsIn_wide.2 (spots_calls _ _ _ _ _)).mono ?_; rintro e w' ⟨rfl, rfl⟩)
      obtain ⟨W0, hW0⟩ : ∃ W0, (wr.alloc (.cells #[.int .i64 (N : Int)] 3)).alloc (.cells #[.slice A xs.length c] 39) = W0 := ⟨_, rfl⟩
      have bP : W0.heap[wr.heap.size]? = some (.cells #[.int .i64 (N : Int)] 3 (0, 0)) := by rw [← hW0]; exact blk_alloc (blk_new _ _) _
      have bL : W0.heap[wr.heap.size + 1]? = some (.cells #[.slice A xs.length c] 39 (0, 0)) := by rw [← hW0]; have h := blk_new (wr.alloc (.cells #[.int .i64 (N : Int)] 3)) (.cells #[.slice A xs.length c] 39); rw [World.size_alloc] at h; exact h
      have hbW : Below wr.heap.size wr W0 := by rw [← hW0]; exact below_alloc (below_alloc (Below.refl _ _) _) _
      have hsz : W0.heap.size = wr.heap.size + 2 := by rw [← hW0]; simp
      have hB0 : Below w.heap.size w W0 := below_step HBk.out hbW
      have hL0 := HL1.out.below hbW
      have q1 := blk_below HQk.out.1 hbW
      have q2 := blk_below HQk.out.2.1 hbW
      have q3 := blk_below HQk.out.2.2 hbW
      have hws := blk_lt HQk.out.2.2
      rw [hW0]
      clear hW0
      refine wpIn_rangeFunc_ownH (w := W0) rfl (by omega) (gf := 51) (lb := #[.pointer (some ⟨wr.heap.size + 1, 0, none⟩), .pointer (some ⟨wr.heap.size, 0, none⟩)]) rfl trivial (enters_of Try.func51 (by kernel_rfl) rfl)
        (spots_stops (6 - 1) (by omega) (wr.heap.size + 1) wr.heap.size w A c N (by omega) (by omega) xs HC.out W0 hB0 bL bP) KpI.trans (KpI.book hB0.size (by omega) (by omega)) (Below.refl _ _) (fun _ => rfl)
        (LaidIn w N W0.heap.size)
        (LaidOut w N)
        (laidIn_own (by omega)) (laidOut_own (by omega))
        ⟨Nat.le_refl _, (List.replicate N (-1), List.replicate 64 0), by rw [List.map_nil]; rfl, hL0, List.length_replicate, q1, q2, q3, hB0⟩
        (fun x a' W => ∃ Bx, W0.heap.size ≤ Bx ∧ W.heap[Bx]? = some (.cells (cellsS (spotv N x.1.f0 x.1.f1)) 74 (0, 0)) ∧ a' = { tmps := #[.int .i64 N, .slice A xs.length c, undef, undef, .pointer (some ⟨w.heap.size, 0, none⟩), .pointer (some ⟨w.heap.size + 1, 0, none⟩), .pointer (some ⟨w.heap.size + 1 + 1 + 1 + 1, 0, none⟩), u7, .pointer (some ⟨Bx, 0, none⟩), .bool (spotv N x.1.f0 x.1.f1).2.2.2.2.2, .int .i64 N, .bool (decide ((N : Int) < 0)), .bool (decide ((N : Int) < 0)), .int .i64 N, .bool (decide (64 < (N : Int))), .bool (decide ((N : Int) < 0) || decide (64 < (N : Int))), .int .i64 N, .slice (some ⟨w.heap.size + 1 + 1, 0, none⟩) N N, .agg (yv (some ⟨w.heap.size + 1 + 1, 0, none⟩) N N), .pointer (some ⟨w.heap.size + 1 + 1 + 1, 0, none⟩), .pointer (some ⟨w.heap.size + 1 + 1 + 1, 0, none⟩), .pointer (some ⟨w.heap.size + 1 + 1 + 1, 0, none⟩), .pointer (some ⟨w.heap.size + 1 + 1 + 1, 0, none⟩), .slice (some ⟨w.heap.size + 1 + 1, 0, none⟩) N N, .int .i64 N, .int .i64 k, .bool false, u27, u28, u29, u30, u31, u32, u33, u34, .int .i64 N, .slice A xs.length c, .func (.func 51) #[] #[.pointer (some ⟨wr.heap.size + 1, 0, none⟩), .pointer (some ⟨wr.heap.size, 0, none⟩)], encS (spotv N x.1.f0 x.1.f1), .bool (spotv N x.1.f0 x.1.f1).2.2.2.2.2, undef, undef, undef, undef, undef, undef, undef, undef, undef], defers := [] })
        (fun x a' _ X Y row hs hg hr => by obtain ⟨Bx, e1, e2, e3⟩ := hs; exact ⟨Bx, e1, (grownBy_keeps_cells hg (fun r e => (hr r e).2) e2 rfl).trans e2, e3⟩)
        ?assign ?body ?done ?stop
      case assign =>
        rintro l pre x W K hI hK
        obtain ⟨⟨r1, r2, r3, r4, r5, r6⟩, hsp⟩ : ∃ s, spotv N x.1.f0 x.1.f1 = s := ⟨_, rfl⟩
        have hen : encO N x = #[.agg #[.int .i64 r1, .int .i64 r2, .bool r3, .int .i64 r4, .int .i64 r5], .bool r6] := by unfold encO encS; rw [hsp]
        rw [hen]
        simp only [hsp, encS, cellsS] at hK
        have HK := Aside0.mk hK
        have HI := Aside0.mk hI
        clear hK hI hen hsp
        gi_wp2
        obtain ⟨hm, st, i1, i2, i3, i4, i5, i6, i7⟩ := HI.out
        refine HK.out _ _ ((KeepsOthers.alloc _ _).from _) ⟨(Below.refl _ W).alloc i7.size _, Below.heap_alloc _ _ _ (by omega), Below.heap_alloc _ _ _ (by omega)⟩ ⟨?_, st, i1, i2.alloc _, i3, blk_alloc i4 _, blk_alloc i5 _, blk_alloc i6 _, i7.alloc i7.size _⟩ ⟨W.heap.size, hm, blk_new _ _, rfl⟩
        rw [World.size_alloc]; omega
      case body =>
        rintro l pre x a' W hl ⟨rc, hrc⟩ ⟨hm, st, i1, i2, i3, i4, i5, i6, i7⟩ ⟨Bx, hBx, bX, rfl⟩ hlt
        obtain ⟨ks, cs⟩ := st
        simp only at i2 i3
        obtain ⟨⟨r1, r2, r3, r4, r5, r6⟩, hsp⟩ : ∃ s, spotv N x.1.f0 x.1.f1 = s := ⟨_, rfl⟩
        rw [hsp] at bX ⊢
        simp only [encS, cellsS] at bX ⊢
        have c6 : W.cell? ⟨w.heap.size + 1 + 1 + 1 + 1, 0, none⟩ = some (.pointer (some ⟨w.heap.size + 1 + 1 + 1, 0, none⟩)) := (blk_cell i6 0).trans rfl
        have c4 : W.cell? ⟨w.heap.size, 0, none⟩ = some (.pointer none) := (blk_cell i4 0).trans rfl
        have f4 := blk_frozen i4 0
        have c5 : W.cell? ⟨w.heap.size + 1, 0, none⟩ = some (.bool false) := (blk_cell i5 0).trans rfl
        have f5 := blk_frozen i5 0
        have x0 : W.cell? ⟨Bx, 0, none⟩ = some (.int .i64 r1) := (blk_cell bX 0).trans rfl
        have x1 : W.cell? ⟨Bx, 1, none⟩ = some (.int .i64 r2) := (blk_cell bX 1).trans rfl
        have x2 : W.cell? ⟨Bx, 2, none⟩ = some (.bool r3) := (blk_cell bX 2).trans rfl
        have x3 : W.cell? ⟨Bx, 3, none⟩ = some (.int .i64 r4) := (blk_cell bX 3).trans rfl
        have x4 : W.cell? ⟨Bx, 4, none⟩ = some (.int .i64 r5) := (blk_cell bX 4).trans rfl
        have I4 := Aside0.mk i4
        have I5 := Aside0.mk i5
        have I6 := Aside0.mk i6
        have I7 := Aside0.mk i7
        have HL := Aside0.mk i2
        clear i4 i5 i6 i7 i2 bX hrc
        cases r6 with
        | false =>
          have HN1 := Aside0.mk (show layAll N ((pre ++ [x]).map (·.1)) (List.replicate N (-1), List.replicate 64 0) = none by rw [List.map_append, layAll_append, i1]; simp only [Option.bind_some, List.map_cons, List.map_nil, layAll, hsp]; rfl)
          gi_wp2
          refine ⟨trivial, ?_⟩
          gi_wp2
          exact ⟨((KeepsOthers.setCell _ _ _).trans (KeepsOthers.setCell _ _ _)).from _, rfl, HN1.out, blk_far (ptr_set I4.out) (by simp only; omega) _, bool_set (blk_far I5.out (by simp only; omega) _) false, (I7.out.setCell (by simp only; omega) _).setCell (by simp only; omega) _⟩
        | true =>
          have hin := spotv_in N x.1.f0 x.1.f1 (by omega) (by omega) (by rw [hsp])
          rw [hsp, Int.toNat_natCast, ← i3] at hin
          have hcal := lay_calls _ _ ks cs (r1, r2, r3, r4, r5, true) W HL.out hin
          have hstep : layAll N ((pre ++ [x]).map (·.1)) (List.replicate N (-1), List.replicate 64 0) = layOf (r1, r2, r3, r4, r5, true) ks cs := by
            rw [List.map_append, layAll_append, i1]
            simp only [Option.bind_some, List.map_cons, List.map_nil, layAll, hsp, if_true]
            cases layOf (r1, r2, r3, r4, r5, true) ks cs <;> rfl
          clear hin hsp
          have hlen := HL.out.lk
          cases hlo : layOf (r1, r2, r3, r4, r5, true) ks cs with
          | none =>
            rw [hlo] at hcal hstep
            have HCAL := Aside0.mk hcal
            have HSTEP := Aside0.mk hstep
            clear hcal hstep hlo
            gi_wp2_with (refine ⟨trivial, ?_⟩; gi_at_call 50; refine (CallsIn.inRound l (callsIn_wide.2 HCAL.out)).mono ?_; rintro e w2 ⟨rfl, _, htwo⟩; have d4 := (htwo.block _ (blk_lt I4.out) (by omega) (by omega)).trans I4.out; have d5 := (htwo.block _ (blk_lt I5.out) (by omega) (by omega)).trans I5.out; have c4' : w2.cell? ⟨w.heap.size, 0, none⟩ = some (.pointer none) := (blk_cell d4 0).trans rfl; have f4' := blk_frozen d4 0; have c5' : w2.cell? ⟨w.heap.size + 1, 0, none⟩ = some (.bool false) := (blk_cell d5 0).trans rfl; have f5' := blk_frozen d5 0; have D4 := Aside0.mk d4; have D5 := Aside0.mk d5; have HT := Aside0.mk htwo; clear d4 d5 htwo)
            exact ⟨(HT.out.keepsFrom (by omega) (by omega)).trans (((KeepsOthers.setCell _ _ _).trans (KeepsOthers.setCell _ _ _)).from _), rfl, HSTEP.out, blk_far (ptr_set D4.out) (by simp only; omega) _, bool_set (blk_far D5.out (by simp only; omega) _) false, ((I7.out.trans (HT.out.below I7.out.size (by omega) (by omega))).setCell (by simp only; omega) _).setCell (by simp only; omega) _⟩
          | some st' =>
            rw [hlo] at hcal hstep
            have HCAL := Aside0.mk hcal
            have HSTEP := Aside0.mk hstep
            have hl2 := (layOf_length hlo).1
            clear hcal hstep hlo
            gi_wp2_with (refine ⟨trivial, ?_⟩; gi_at_call 50; refine (CallsIn.inRound l (callsIn_wide.2 HCAL.out)).mono ?_; rintro e w2 ⟨rfl, hlay, htwo⟩; have HLAY := Aside0.mk (hlay _ rfl); have HT := Aside0.mk htwo; clear hlay htwo)
            have hb2 : Below w.heap.size W w2 := HT.out.below I7.out.size (by omega) (by omega)
            exact ⟨HT.out.keepsFrom (by omega) (by omega), ⟨hb2, HT.out.block _ (by omega) (by omega) (by omega), HT.out.block _ (by omega) (by omega) (by omega)⟩, Nat.le_trans hm HT.out.size, st', HSTEP.out, HLAY.out, hl2.trans i3, (HT.out.block _ (blk_lt I4.out) (by omega) (by omega)).trans I4.out, (HT.out.block _ (blk_lt I5.out) (by omega) (by omega)).trans I5.out, (HT.out.block _ (blk_lt I6.out) (by omega) (by omega)).trans I6.out, I7.out.trans hb2⟩
      case done =>
        rintro D ys W hD rfl ⟨hm, st, i1, i2, i3, i4, i5, i6, i7⟩ hK
        have c6 : W.cell? ⟨w.heap.size + 1 + 1 + 1 + 1, 0, none⟩ = some (.pointer (some ⟨w.heap.size + 1 + 1 + 1, 0, none⟩)) := (blk_cell i6 0).trans rfl
        have c4 : W.cell? ⟨w.heap.size, 0, none⟩ = some (.pointer none) := (blk_cell i4 0).trans rfl
        have f4 := blk_frozen i4 0
        have c5 : W.cell? ⟨w.heap.size + 1, 0, none⟩ = some (.bool false) := (blk_cell i5 0).trans rfl
        have f5 := blk_frozen i5 0
        have I1 := Aside0.mk i1
        have I2 := Aside0.mk i2
        have I4 := Aside0.mk i4
        have I5 := Aside0.mk i5
        have I7 := Aside0.mk i7
        have HK := Aside0.mk hK
        clear i1 i2 i4 i5 i6 i7 hK
        gi_wp2
        have e4 : ((W.setCell ⟨w.heap.size, 0, none⟩ (.pointer (some ⟨w.heap.size + 1 + 1 + 1, 0, none⟩))).setCell ⟨w.heap.size + 1, 0, none⟩ (.bool true)).heap[w.heap.size]? = some (.cells #[.pointer (some ⟨w.heap.size + 1 + 1 + 1, 0, none⟩)] 58 (0, 0)) := blk_far (blk_put I4.out 0 _ rfl) (by simp only; omega) _
        have e5 : ((W.setCell ⟨w.heap.size, 0, none⟩ (.pointer (some ⟨w.heap.size + 1 + 1 + 1, 0, none⟩))).setCell ⟨w.heap.size + 1, 0, none⟩ (.bool true)).heap[w.heap.size + 1]? = some (.cells #[.bool true] 4 (0, 0)) := bool_set (blk_far I5.out (by simp only; omega) _) true
        have eK := ((KeepsOthers.setCell W ⟨w.heap.size, 0, none⟩ (.pointer (some ⟨w.heap.size + 1 + 1 + 1, 0, none⟩))).trans (KeepsOthers.setCell _ ⟨w.heap.size + 1, 0, none⟩ (.bool true))).same D _ HK.out rfl
        have eL : Lay ((W.setCell ⟨w.heap.size, 0, none⟩ (.pointer (some ⟨w.heap.size + 1 + 1 + 1, 0, none⟩))).setCell ⟨w.heap.size + 1, 0, none⟩ (.bool true)) (w.heap.size + 1 + 1 + 1) (w.heap.size + 1 + 1) st.1 st.2 := I2.out.same ((Below.heap_setCell _ _ _ _ (by simp only; omega)).trans (Below.heap_setCell _ _ _ _ (by simp only; omega))) ((Below.heap_setCell _ _ _ _ (by simp only; omega)).trans (Below.heap_setCell _ _ _ _ (by simp only; omega)))
        have eB : Below w.heap.size w ((W.setCell ⟨w.heap.size, 0, none⟩ (.pointer (some ⟨w.heap.size + 1 + 1 + 1, 0, none⟩))).setCell ⟨w.heap.size + 1, 0, none⟩ (.bool true)) := (I7.out.setCell (by simp only; omega) _).setCell (by simp only; omega) _
        refine ⟨by simp, .inl ⟨_, _, rfl, run_takeDeferred eK, ?_⟩⟩
        generalize (W.setCell ⟨w.heap.size, 0, none⟩ (.pointer (some ⟨w.heap.size + 1 + 1 + 1, 0, none⟩))).setCell ⟨w.heap.size + 1, 0, none⟩ (.bool true) = W2 at e4 e5 eK eL eB ⊢
        have g4 : (W2.putObj D (.deferred none)).cell? ⟨w.heap.size, 0, none⟩ = some (.pointer (some ⟨w.heap.size + 1 + 1 + 1, 0, none⟩)) := (blk_cell ((World.putObj_heap_other (by omega)).trans e4) 0).trans rfl
        have g5 : (W2.putObj D (.deferred none)).cell? ⟨w.heap.size + 1, 0, none⟩ = some (.bool true) := (blk_cell ((World.putObj_heap_other (by omega)).trans e5) 0).trans rfl
        refine ⟨.tuple #[.pointer (some ⟨w.heap.size + 1 + 1 + 1, 0, none⟩), .bool true], ?_, .inr ⟨_, _, st, ?_, rfl, eL.same (World.putObj_heap_other (by omega)) (World.putObj_heap_other (by omega)), i3, by omega, by omega, eB.trans (belowK_b (w := w) (Nat.le_refl _) W2 D _ _ (by omega) eK rfl rfl)⟩⟩
        · simp [results, Try.f44, go_sem, g4, g5]
        · unfold laid
          rw [if_pos (by omega), Int.toNat_natCast]
          exact I1.out
      case stop =>
        rintro D cx pre W hD hpre ⟨rfl, h2, i4, i5, i7⟩ hK
        have H2 := Aside0.mk h2
        have I4 := Aside0.mk i4
        have I5 := Aside0.mk i5
        have I7 := Aside0.mk i7
        have HK := Aside0.mk hK
        have HP := Aside0.mk hpre
        clear h2 i4 i5 i7 hK hpre
        gi_wp2
        refine ⟨by simp, .inl ⟨_, _, rfl, run_takeDeferred HK.out, ?_⟩⟩
        have g4 : (W.putObj D (.deferred none)).cell? ⟨w.heap.size, 0, none⟩ = some (.pointer none) := (blk_cell ((World.putObj_heap_other (by omega)).trans I4.out) 0).trans rfl
        have g5 : (W.putObj D (.deferred none)).cell? ⟨w.heap.size + 1, 0, none⟩ = some (.bool false) := (blk_cell ((World.putObj_heap_other (by omega)).trans I5.out) 0).trans rfl
        refine ⟨.tuple #[.pointer none, .bool false], ?_, .inl ⟨?_, rfl, I7.out.trans (belowK_b (w := w) (Nat.le_refl _) W D _ _ (by omega) HK.out rfl rfl)⟩⟩
        · simp [results, Try.f44, go_sem, g4, g5]
        · unfold laid
          rw [if_pos (by omega), Int.toNat_natCast]
          obtain ⟨t, ht⟩ := HP.out
          rw [← ht, List.map_append, layAll_append, H2.out]
          rfl
end Go.Proofs.Ytlpkbekpdhaplaa.P
