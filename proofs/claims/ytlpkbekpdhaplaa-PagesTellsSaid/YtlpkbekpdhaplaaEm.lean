/- What pages.Mates returns. -/
import Derived.Maps.AppendAt
import Derived.Test.YtlpkbekpdhaplaaEp
namespace Go.Proofs.Ytlpkbekpdhaplaa.P
open Go.RowKit Go.Shelf Go.Proofs.YtlpkbekpdhaplaaW.PrintWords Go.Proofs.YtlpkbekpdhaplaaW.PrintLast Go.Proofs.YtlpkbekpdhaplaaW.PrintMore
attribute [local go_sem] Oper.semAt_some
set_option linter.unusedVariables false
set_option linter.unusedSimpArgs false

def hits (n page : Int) (o : S44) : Bool := decide ((spotv n o.f0 o.f1).1 ≤ page) && decide (page - (spotv n o.f0 o.f1).1 < (spotv n o.f0 o.f1).2.1)
/-- The places of the objects of a page. -/
def matesOf (n page : Int) : Nat → List S44 → List Int
  | _, [] => []
  | i, o :: r => (if hits n page o = true then [(i : Int)] else []) ++ matesOf n page (i + 1) r
theorem matesOf_append (n page : Int) : ∀ (a b : List S44) (i : Nat), matesOf n page i (a ++ b) = matesOf n page i a ++ matesOf n page (i + a.length) b
  | [], b, i => rfl
  | o :: a, b, i => by
    rw [List.cons_append]
    simp only [matesOf]
    rw [matesOf_append n page a b (i + 1), List.append_assoc, List.length_cons]
    congr 3
    omega
theorem matesOf_length (n page : Int) : ∀ (a : List S44) (i : Nat), (matesOf n page i a).length ≤ a.length
  | [], i => Nat.le_refl _
  | o :: a, i => by
    have := matesOf_length n page a (i + 1)
    simp only [matesOf, List.length_append, List.length_cons]
    split <;> simp <;> omega
def pages_Mates.f (n : Int) (l : List S44) (page : Int) : Option (List Int) :=
  if okL l = true ∧ page ≤ 9223372036854775807 then some (match laid n l with | some _ => matesOf n page 0 l | none => []) else none
theorem spotv_page (n a len : Int) (h : a ≤ 9223372036854775807) : 0 ≤ (spotv n a len).1 ∧ (spotv n a len).1 ≤ 288230376151711744 ∧ 0 ≤ (spotv n a len).2.1 ∧ (spotv n a len).2.1 ≤ 64 := by
  unfold spotv
  repeat' split
  all_goals (simp only; omega)
/-- Between two rounds. -/
def MatesIn (w w2 : World) (n page : Int) (n0 : Nat) (pre : List ObjI) (W : World) : Prop :=
  n0 ≤ W.heap.size ∧ ∃ v, W.heap[w2.heap.size]? = some (.cells #[v] 33 (0, 0)) ∧ W.ownsRow n0 3 1 v (matesOf n page 0 (pre.map (·.1))).length (encs (Value.int .i64) (matesOf n page 0 (pre.map (·.1)))) ∧
    W.heap[w2.heap.size + 1]? = some (.cells #[.int .i64 (pre.length : Int)] 3 (0, 0)) ∧ W.heap[w.heap.size]? = some (.cells #[.int .i64 page] 3 (0, 0)) ∧ Below w.heap.size w W
theorem ownsRow_turn {X Y : World} {row : Option Nat} {base n : Nat} {e : TypeId} {size : Nat} {v : Value} {xs : List Value} (h : X.ownsRow base e size v n xs) (hg : X.grownBy Y row) (hr : ∀ r, row = some r → ∃ o : Obj, X.heap[r]? = some o ∧ o.isCells = false) : Y.ownsRow base e size v n xs := by
  refine h.kept hg ?_
  rcases h.2 with ⟨rfl, _⟩ | ⟨g, cap, cur, rfl, _, hgb, _⟩
  · exact .inl rfl
  · refine .inr fun e' => ?_
    obtain ⟨o, ho, hc⟩ := hr g (by simpa [Value.ownBlock] using e'.symm)
    rw [hgb] at ho; cases ho; cases hc
theorem matesIn_own {w w2 : World} {n page : Int} {n0 B : Nat} (hB : w.heap.size ≤ B) : OwnFrom B (MatesIn w w2 n page n0) := by
  rintro s X Y row ⟨hm, v, h1, h2, h3, h4, h5⟩ hg hr
  have hk := fun {k : Nat} {o : Obj} (h : X.heap[k]? = some o) (hc : o.isCells = true) => grownBy_keeps_cells hg (fun r e => (hr r e).2) h hc
  exact ⟨Nat.le_trans hm hg.size, v, (hk h1 rfl).trans h1, ownsRow_turn h2 hg (fun r e => (hr r e).2), (hk h3 rfl).trans h3, (hk h4 rfl).trans h4, h5.grown hg h5.size (fun k e => Nat.le_trans hB (hr k e).1)⟩
/-- Behind an append to a row that lies from n0 on: what lay below n0 stands, and whatever is no cells. -/
theorem append_keeps {W w1 : World} {n0 : Nat} {e : TypeId} {size k : Nat} {v : Value} {xs : List Value} {tmp : Obj} (hrow : W.ownsRow n0 e size v k xs) (hn0 : n0 ≤ W.heap.size) (hgrow : (W.alloc tmp).grownBy w1 v.ownBlock) :
    KeepsOthers W w1 ∧ Below n0 W w1 := by
  refine ⟨(KeepsOthers.alloc W tmp).trans (KeepsOthers.of_grownBy hgrow fun j o ej hj => ?_), ((Below.refl n0 W).alloc hn0 tmp).grown hgrow (by simp; omega) fun j ej => ?_⟩
  · rcases (hrow.alloc tmp).2 with ⟨rfl, _⟩ | ⟨g, cap, cur, rfl, _, hgb, _⟩
    · simp [Value.ownBlock] at ej
    · obtain rfl : g = j := by simpa [Value.ownBlock] using ej
      rw [hgb] at hj; cases hj; rfl
  · rcases hrow.2 with ⟨rfl, _⟩ | ⟨g, cap, cur, rfl, hb, _, _⟩
    · simp [Value.ownBlock] at ej
    · obtain rfl : g = j := by simpa [Value.ownBlock] using ej
      exact hb
theorem ownsRow_set {W : World} {n0 n : Nat} {e : TypeId} {size : Nat} {v u : Value} {xs : List Value} (h : W.ownsRow n0 e size v n xs) {g : Nat} (hg : g < n0) : (W.setCell ⟨g, 0, none⟩ u).ownsRow n0 e size v n xs := by
  refine h.kept (grownBy_setCell' W g u) ?_
  rcases h.2 with ⟨rfl, _⟩ | ⟨g', cap, cur, rfl, hb, hgb, _⟩
  · exact .inl rfl
  · refine .inr fun e' => ?_
    have : g' = g := by simpa [Value.ownBlock] using e'
    omega
set_option maxRecDepth 100000 in
set_option maxHeartbeats 2000000 in
theorem mates_walk (n page : Int) (A : Option Addr) (c : Nat) (xs : List ObjI) (w : World) (hn : 0 ≤ n) (hn2 : n ≤ 64) (hpg : page ≤ 9223372036854775807) (hlen : xs.length ≤ 8796093022208)
    (hC : Kd.C k44 w A xs.length (xs.map (·.1)))
    (hcal : ∀ W, Below w.heap.size w W → Calls Try.prog 44 #[.int .i64 n, .slice A xs.length c] W fun e w' => ∃ gy, e = .returned (.tuple #[.pointer (some ⟨gy, 0, none⟩), .bool true]) ∧ Below W.heap.size W w') :
    Calls Try.prog 37 #[.int .i64 n, .slice A xs.length c, .int .i64 page] w fun e w' => ∃ v0_ : Value, e = .returned v0_ ∧ Kd.R (Kd.int .i64) 3 w' w.heap.size (fun _ => True) v0_ (matesOf n page 0 (xs.map (·.1))) ∧ Below w.heap.size w w' := by
  have HC := Aside0.mk hC
  have HCAL := Aside0.mk hcal
  obtain ⟨i0, hi0, hz0, hz1, hz2⟩ := info_parts info3
  clear hC hcal
  refine (callsIn_wide (n := 6)).1 ?_
  refine callsIn_of_wp_marks Try.func37 rfl trivial ?_ rfl
  simp only [Try.ntmps37, List.size_toArray, List.length_cons, List.length_nil, Nat.reduceAdd, Nat.reduceSub, Array.replicate_succ, Array.replicate_zero, List.push_toArray, List.append_toArray, List.nil_append, List.cons_append]
  gi_wp2_with (first | (refine ⟨trivial, ?_⟩; gi_at_call 44; refine (callsIn_wide.2 (HCAL.out _ (below_alloc (Below.refl _ _) _))).mono ?_; rintro e w2 ⟨gy2, rfl, hb⟩; have HB2 := Aside0.mk hb; clear hb) | (refine ⟨trivial, ?_⟩; gi_at_call 49; refine (callsIn_wide.2 (spots_calls _ _ _ _ _)).mono ?_; rintro e w' ⟨rfl, rfl⟩))
  have HBw := Aside0.mk (below_step (below_alloc (Below.refl w.heap.size w) _) HB2.out)
  have e5 := blk_below (blk_new w (.cells #[.int .i64 page] 3)) HB2.out
  have hws := blk_lt e5
  obtain ⟨W0, hW0⟩ : ∃ W0, (((w2.alloc (.cells #[.slice none 0 0] 33)).alloc (.cells #[.int .i64 0] 3)).alloc (.cells #[.int .i64 n] 3)).alloc (.cells #[.slice A xs.length c] 39) = W0 := ⟨_, rfl⟩
  have hfour : W0.heap[w2.heap.size]? = some (.cells #[.slice none 0 0] 33 (0, 0)) ∧ W0.heap[w2.heap.size + 1]? = some (.cells #[.int .i64 0] 3 (0, 0)) ∧ W0.heap[w2.heap.size + 1 + 1]? = some (.cells #[.int .i64 n] 3 (0, 0)) ∧ W0.heap[w2.heap.size + 1 + 1 + 1]? = some (.cells #[.slice A xs.length c] 39 (0, 0)) ∧ Below w2.heap.size w2 W0 ∧ w2.heap.size + 4 ≤ W0.heap.size := by
    rw [← hW0]
    have h1 := blk_new w2 (.cells #[.slice none 0 0] 33)
    have h2 := blk_new (w2.alloc (.cells #[.slice none 0 0] 33)) (.cells #[.int .i64 0] 3)
    have h3 := blk_new ((w2.alloc (.cells #[.slice none 0 0] 33)).alloc (.cells #[.int .i64 0] 3)) (.cells #[.int .i64 n] 3)
    have h4 := blk_new (((w2.alloc (.cells #[.slice none 0 0] 33)).alloc (.cells #[.int .i64 0] 3)).alloc (.cells #[.int .i64 n] 3)) (.cells #[.slice A xs.length c] 39)
    simp only [World.size_alloc] at h2 h3 h4
    exact ⟨blk_alloc (blk_alloc (blk_alloc h1 _) _) _, blk_alloc (blk_alloc h2 _) _, blk_alloc h3 _, h4, below_alloc (below_alloc (below_alloc (below_alloc (Below.refl _ _) _) _) _) _, by simp⟩
  obtain ⟨q9, q10, qp, ql, hbW, hsz⟩ := hfour
  have q5 := blk_below e5 hbW
  have hB0 : Below w.heap.size w W0 := below_step HBw.out hbW
  rw [hW0]
  clear hW0 e5 hbW
  refine wpIn_rangeFunc_ownH (w := W0) rfl (by omega) (gf := 51) (lb := #[.pointer (some ⟨w2.heap.size + 1 + 1 + 1, 0, none⟩), .pointer (some ⟨w2.heap.size + 1 + 1, 0, none⟩)]) rfl trivial (enters_of Try.func51 (by kernel_rfl) rfl)
    (spots_stops (6 - 1) (by omega) (w2.heap.size + 1 + 1 + 1) (w2.heap.size + 1 + 1) w A c n hn hn2 xs HC.out W0 hB0 ql qp) KpI.trans (KpI.book hB0.size (by omega) (by omega)) (Below.refl _ _) (fun _ => rfl)
    (MatesIn w w2 n page W0.heap.size)
    (fun _ _ _ => False)
    (matesIn_own hB0.size) (fun _ _ _ _ _ hs _ _ => hs)
    ⟨Nat.le_refl _, _, q9, World.ownsRow_nil _ _ _ _, q10, q5, hB0⟩
    (fun x a' W => ∃ Bx, W0.heap.size ≤ Bx ∧ W.heap[Bx]? = some (.cells (cellsS (spotv n x.1.f0 x.1.f1)) 74 (0, 0)) ∧ a' = { tmps := #[.int .i64 n, .slice A xs.length c, .int .i64 page, undef, undef, .pointer (some ⟨w.heap.size, 0, none⟩), .slice none 0 0, .pointer (some ⟨gy2, 0, none⟩), .bool true, .pointer (some ⟨w2.heap.size, 0, none⟩), .pointer (some ⟨w2.heap.size + 1, 0, none⟩), .pointer (some ⟨Bx, 0, none⟩), .tuple #[.pointer (some ⟨gy2, 0, none⟩), .bool true], .int .i64 n, .slice A xs.length c, .tuple #[.pointer (some ⟨gy2, 0, none⟩), .bool true], .pointer (some ⟨gy2, 0, none⟩), .bool true, .bool true, .bool false, .int .i64 n, .slice A xs.length c, .func (.func 51) #[] #[.pointer (some ⟨w2.heap.size + 1 + 1 + 1, 0, none⟩), .pointer (some ⟨w2.heap.size + 1 + 1, 0, none⟩)], encS (spotv n x.1.f0 x.1.f1), .bool (spotv n x.1.f0 x.1.f1).2.2.2.2.2, undef, undef, undef, undef, undef, undef, undef, undef, undef, undef, undef, undef, undef, undef, undef, undef, undef, undef, undef, undef], defers := [] })
    (fun x a' _ X Y row hs hg hr => by obtain ⟨Bx, e1, e2, e3⟩ := hs; exact ⟨Bx, e1, (grownBy_keeps_cells hg (fun r e => (hr r e).2) e2 rfl).trans e2, e3⟩)
    ?assign ?body ?done ?stop
  case assign =>
    rintro l pre x W K hI hK
    obtain ⟨⟨r1, r2, r3, r4, r5, r6⟩, hsp⟩ : ∃ s, spotv n x.1.f0 x.1.f1 = s := ⟨_, rfl⟩
    have hen : encO n x = #[.agg #[.int .i64 r1, .int .i64 r2, .bool r3, .int .i64 r4, .int .i64 r5], .bool r6] := by unfold encO encS; rw [hsp]
    rw [hen]
    simp only [hsp, encS, cellsS] at hK
    have HK := Aside0.mk hK
    have HI := Aside0.mk hI
    clear hK hI hen hsp
    gi_wp2
    obtain ⟨hm, v, i1, i2, i3, i4, i5⟩ := HI.out
    refine HK.out _ _ ((KeepsOthers.alloc _ _).from _) ⟨(Below.refl _ W).alloc i5.size _, Below.heap_alloc _ _ _ (by omega), Below.heap_alloc _ _ _ (by omega)⟩ ⟨?_, v, blk_alloc i1 _, i2.alloc _, blk_alloc i3 _, blk_alloc i4 _, i5.alloc i5.size _⟩ ⟨W.heap.size, hm, blk_new _ _, rfl⟩
    rw [World.size_alloc]; omega
  case body =>
    rintro l pre x a' W hl ⟨rc, hrc⟩ ⟨hm, v, i9, i2, i10, i5, i7⟩ ⟨Bx, hBx, bX, rfl⟩ hlt
    have hpl : pre.length < 8796093022208 := by omega
    have hml := matesOf_length n page (pre.map (·.1)) 0
    rw [List.length_map] at hml
    have hstep : matesOf n page 0 ((pre ++ [x]).map (·.1)) = matesOf n page 0 (pre.map (·.1)) ++ (if hits n page x.1 = true then [(pre.length : Int)] else []) := by
      rw [List.map_append, matesOf_append, Nat.zero_add, List.length_map]
      simp only [List.map_cons, List.map_nil, matesOf, List.append_nil]
    have hbd := spotv_page n x.1.f0 x.1.f1 x.2.2
    unfold hits at hstep
    obtain ⟨⟨r1, r2, r3, r4, r5, r6⟩, hsp⟩ : ∃ s, spotv n x.1.f0 x.1.f1 = s := ⟨_, rfl⟩
    rw [hsp] at bX hbd hstep ⊢
    simp only [encS, cellsS] at bX hbd hstep ⊢
    obtain ⟨hr1, hr2, hr3, hr4⟩ := hbd
    have x0 : W.cell? ⟨Bx, 0, none⟩ = some (.int .i64 r1) := (blk_cell bX 0).trans rfl
    have x1 : W.cell? ⟨Bx, 1, none⟩ = some (.int .i64 r2) := (blk_cell bX 1).trans rfl
    have c5 : W.cell? ⟨w.heap.size, 0, none⟩ = some (.int .i64 page) := (blk_cell i5 0).trans rfl
    have c9 : W.cell? ⟨w2.heap.size, 0, none⟩ = some v := (blk_cell i9 0).trans rfl
    have c10 : W.cell? ⟨w2.heap.size + 1, 0, none⟩ = some (.int .i64 (pre.length : Int)) := (blk_cell i10 0).trans rfl
    have f10 := blk_frozen i10 0
    have hlen2 : (pre ++ [x]).length = pre.length + 1 := by rw [List.length_append, List.length_singleton]
    have HLN := Aside0.mk hlen2
    have I9 := Aside0.mk i9
    have I10 := Aside0.mk i10
    have I5 := Aside0.mk i5
    have I7 := Aside0.mk i7
    have HR := Aside0.mk i2
    clear i9 i10 i5 i7 i2 bX hrc hsp hlen2
    by_cases k1 : r1 ≤ page
    · by_cases k2 : page - r1 < r2
      · rw [decide_eq_true k1, decide_eq_true k2, Bool.and_self, if_pos rfl] at hstep
        have HST := Aside0.mk hstep
        clear hstep
        generalize hms : matesOf n page 0 (pre.map (·.1)) = ms at HR HST hml
        clear hms
        gi_wp2_with (first   | ((with_reducible refine gateIn_dst (N := 41) rfl ?_); gi_at_builtin; refine wpListIn_append_own _ rfl _ _ 33 rfl W0.heap.size 3 i0 (.int .i64 0) 1 8 Try.underlying33 hi0 hz0 hz1 hz2 rfl (by decide) _ _ _ rfl (HR.out.alloc _) ⟨W.heap.size, 0, none⟩ 1 1 [.int .i64 (pre.length : Int)] rfl rfl (cell_one_new _ _ _) (by simp [Value.oneCell']) (by unfold maxLen; omega) (by omega) (by have := hm; simp; omega) ?_; intro v' w1 hown' hgrow _; obtain ⟨g', cap', rfl⟩ := ownsRow_succ hown'; obtain ⟨hka, hba⟩ := append_keeps HR.out hm hgrow; have d9 := (hba.block _ (by omega)).trans I9.out; have d10 := (hba.block _ (by omega)).trans I10.out; have c9' : w1.cell? ⟨w2.heap.size, 0, none⟩ = some v := (blk_cell d9 0).trans rfl; have f9' := blk_frozen d9 0; have c10' : w1.cell? ⟨w2.heap.size + 1, 0, none⟩ = some (.int .i64 (pre.length : Int)) := (blk_cell d10 0).trans rfl; have f10' := blk_frozen d10 0; have HOWN := Aside0.mk hown'; have HKA := Aside0.mk hka; have HBA := Aside0.mk hba; have D9 := Aside0.mk d9; have D10 := Aside0.mk d10; clear hown' hgrow hka hba d9 d10))
        refine ⟨(HKA.out.trans ((KeepsOthers.setCell _ _ _).trans (KeepsOthers.setCell _ _ _))).from _, ⟨((HBA.out.mono hB0.size).setCell (by simp only; omega) _).setCell (by simp only; omega) _, ?_, ?_⟩, ?_, _, blk_far (blk_put D9.out 0 _ rfl) (by simp only; omega) _, ?_, ?_, ?_, ?_⟩
        · exact (Below.heap_setCell _ _ _ _ (by simp only; omega)).trans ((Below.heap_setCell _ _ _ _ (by simp only; omega)).trans (HBA.out.block _ (by omega)))
        · exact (Below.heap_setCell _ _ _ _ (by simp only; omega)).trans ((Below.heap_setCell _ _ _ _ (by simp only; omega)).trans (HBA.out.block _ (by omega)))
        · have h1 := HBA.out.size
          simp [World.setCell]
          omega
        · rw [HST.out, List.length_append, encs_append]
          exact ownsRow_set (ownsRow_set HOWN.out (by omega)) (by omega)
        · rw [HLN.out]
          exact blk_put (blk_far D10.out (by simp only; omega) _) 0 _ rfl
        · exact blk_far (blk_far ((HBA.out.block _ (by omega)).trans I5.out) (by simp only; omega) _) (by simp only; omega) _
        · exact (I7.out.trans (((HBA.out.mono hB0.size).setCell (by simp only; omega) _).setCell (by simp only; omega) _))
      · rw [decide_eq_false k2, Bool.and_false, if_neg (by decide), List.append_nil] at hstep
        have HST := Aside0.mk hstep
        clear hstep
        gi_wp2
        refine ⟨(KeepsOthers.setCell _ _ _).from _, ⟨(Below.refl _ W).setCell (by simp only; omega) _, Below.heap_setCell _ _ _ _ (by simp only; omega), Below.heap_setCell _ _ _ _ (by simp only; omega)⟩, ?_, v, blk_far I9.out (by simp only; omega) _, ?_, ?_, blk_far I5.out (by simp only; omega) _, I7.out.setCell (by simp only; omega) _⟩
        · simp [World.setCell]
          omega
        · rw [HST.out]
          exact ownsRow_set HR.out (by omega)
        · rw [HLN.out]
          exact blk_put I10.out 0 _ rfl
    · rw [decide_eq_false k1, Bool.false_and, if_neg (by decide), List.append_nil] at hstep
      have HST := Aside0.mk hstep
      clear hstep
      gi_wp2
      refine ⟨(KeepsOthers.setCell _ _ _).from _, ⟨(Below.refl _ W).setCell (by simp only; omega) _, Below.heap_setCell _ _ _ _ (by simp only; omega), Below.heap_setCell _ _ _ _ (by simp only; omega)⟩, ?_, v, blk_far I9.out (by simp only; omega) _, ?_, ?_, blk_far I5.out (by simp only; omega) _, I7.out.setCell (by simp only; omega) _⟩
      · simp [World.setCell]
        omega
      · rw [HST.out]
        exact ownsRow_set HR.out (by omega)
      · rw [HLN.out]
        exact blk_put I10.out 0 _ rfl
  case done =>
    rintro D ys W hD rfl ⟨hm, v, i9, i2, i10, i5, i7⟩ hK
    have c9 : W.cell? ⟨w2.heap.size, 0, none⟩ = some v := (blk_cell i9 0).trans rfl
    have HR := Aside0.mk i2
    have I7 := Aside0.mk i7
    have HK := Aside0.mk hK
    clear i9 i2 i10 i5 i7 hK
    gi_wp2
    refine ⟨by simp, .inl ⟨_, _, rfl, run_takeDeferred HK.out, ?_⟩⟩
    refine ⟨_, results_tmp rfl _ _ _, v, rfl, ?_, I7.out.trans (belowK_b (w := w) (Nat.le_refl _) W D _ _ (by have := hB0.size; omega) HK.out rfl rfl)⟩
    refine Kd.R_lower (Kd.R_of_own (ownsRow_putObj HR.out _ HK.out rfl) (fun _ _ => trivial)) hB0.size
  case stop =>
    rintro D cx pre W _ _ h _
    exact h.elim
set_option maxRecDepth 100000 in
theorem mates_not (n page : Int) (A : Option Addr) (len c : Nat) (w : World)
    (hcal : ∀ W, Below w.heap.size w W → Calls Try.prog 44 #[.int .i64 n, .slice A len c] W fun e w' => e = .returned (.tuple #[.pointer none, .bool false]) ∧ Below W.heap.size W w') :
    Calls Try.prog 37 #[.int .i64 n, .slice A len c, .int .i64 page] w fun e w' => ∃ v0_ : Value, e = .returned v0_ ∧ Kd.R (Kd.int .i64) 3 w' w.heap.size (fun _ => True) v0_ [] ∧ Below w.heap.size w w' := by
  have HCAL := Aside0.mk hcal
  clear hcal
  refine (callsIn_wide (n := 6)).1 ?_
  refine callsIn_of_wp_marks Try.func37 rfl trivial ?_ rfl
  simp only [Try.ntmps37, List.size_toArray, List.length_cons, List.length_nil, Nat.reduceAdd, Nat.reduceSub, Array.replicate_succ, Array.replicate_zero, List.push_toArray, List.append_toArray, List.nil_append, List.cons_append]
  gi_wp2_with (first | (refine ⟨trivial, ?_⟩; gi_at_call 44; refine (callsIn_wide.2 (HCAL.out _ (below_alloc (Below.refl _ _) _))).mono ?_; rintro e w2 ⟨rfl, hb⟩; have HB2 := Aside0.mk hb; clear hb))
  exact ⟨_, results_tmp rfl _ _ _, _, rfl, Kd.R_nil _ _ _ _ _, below_step (below_alloc (Below.refl w.heap.size w) _) HB2.out⟩
theorem pages_Mates.calls (a0 : Int) (A1 : Option Addr) (c1 : Nat) (l1 : List S44) (a2 : Int) (r : List Int) (w : World) (hr1 : Kd.C k44 w A1 l1.length l1) (hc1 : l1.length ≤ c1) (h : pages_Mates.f a0 l1 a2 = some r) :
    Calls Try.prog 37 #[.int .i64 a0, .slice A1 l1.length c1, .int .i64 a2] w fun e w' => ∃ v0_ : Value, e = .returned v0_ ∧ Kd.R (Kd.int .i64) 3 w' w.heap.size (fun _ => True) v0_ r ∧ Below w.heap.size w w' := by
  unfold pages_Mates.f at h
  by_cases hl : okL l1 = true ∧ a2 ≤ 9223372036854775807
  · rw [if_pos hl] at h
    obtain ⟨hl, hpg⟩ := hl
    have hcal := fun W (hb : Below w.heap.size w W) => laid_all a0 A1 c1 l1 W hl (Kd.C_below hr1 hb)
    cases hla : laid a0 l1 with
    | none =>
      rw [hla] at h
      obtain rfl := Option.some.inj h
      exact mates_not a0 a2 A1 l1.length c1 w fun W hb => (hcal W hb).mono fun e w' hx => by
        rcases hx with ⟨_, h1, h2⟩ | ⟨_, _, _, h1, _⟩
        · exact ⟨h1, h2⟩
        · rw [hla] at h1; cases h1
    | some st =>
      rw [hla] at h
      obtain rfl := Option.some.inj h
      obtain ⟨hlen, xs, rfl⟩ := okL_is hl
      have hn : 0 ≤ a0 ∧ a0 ≤ 64 := by
        unfold laid at hla
        split at hla
        · assumption
        · cases hla
      rw [List.length_map] at hcal hr1 hlen ⊢
      exact mates_walk a0 a2 A1 c1 xs w hn.1 hn.2 hpg hlen hr1 fun W hb => (hcal W hb).mono fun e w' hx => by
        rcases hx with ⟨h1, _⟩ | ⟨gy, gk, st', h1, h2, h3, h4, h5, h6, h7⟩
        · rw [hla] at h1; cases h1
        · exact ⟨gy, h2, h7⟩
  · rw [if_neg hl] at h; cases h
end Go.Proofs.Ytlpkbekpdhaplaa.P
