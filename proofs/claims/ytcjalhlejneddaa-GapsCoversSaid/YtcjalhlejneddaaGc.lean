/- What the law GapsCovers returns: true. -/
import Derived.Test.YtcjalhlejneddaaGv
import Derived.Test.YtcjalhlejneddaaP3
namespace Go.Proofs.Ytcjalhlejneddaa.P
open Go.RowKit Go.Proofs.YtcjalhlejneddaaW.PrintWords Go.Proofs.YtcjalhlejneddaaW.PrintLast Go.Proofs.YtcjalhlejneddaaW.PrintMore
set_option linter.unusedVariables false
set_option linter.unusedSimpArgs false

/-- The array's zero value. -/
theorem zero39_value (w : World) : (zeroValue 39).run Try.prog w = .ok (.agg (Array.replicate 2048 (.int .i64 0))) w := by kernel_rfl
theorem zero39 : ∃ cs : Array Value, (∀ w : World, (zeroValue 39).run Try.prog w = .ok (.agg cs) w) ∧ cs ≠ #[] ∧ cs.size = 2048 ∧ ∀ k : Nat, k < 2048 → cs[k]? = some (.int .i64 0) := by
  refine ⟨_, zero39_value, ?_, Array.size_replicate, fun k hk => ?_⟩
  · intro h
    have h2 := congrArg Array.size h
    rw [Array.size_replicate] at h2
    cases h2
  · rw [Array.getElem?_replicate, if_pos hk]
theorem small_ok : joistlaw10_small.f 5 = some true := by decide +kernel
theorem w64_fit {n : Int} (h0 : -9223372036854775808 ≤ n) (h1 : n ≤ 9223372036854775807) : IntKind.i64.wrap n = n := by rw [i64_w]; unfold wrap64; omega
/-- The block that counts each word's owners. -/
def Counts (w : World) (g : Nat) (f : Int → Int) : Prop := ∃ cur : Array Value, w.heap[g]? = some (.cells cur 39 (0, 0)) ∧ cur.size = 2048 ∧ ∀ k : Nat, k < 2048 → cur[k]? = some (.int .i64 (f k))
theorem Counts.congr {w : World} {g : Nat} {f f' : Int → Int} (h : Counts w g f) (e : ∀ k : Nat, k < 2048 → f k = f' k) : Counts w g f' := by
  obtain ⟨cur, h1, h2, h3⟩ := h
  exact ⟨cur, h1, h2, fun k hk => by rw [← e k hk]; exact h3 k hk⟩
theorem Counts.cell {w : World} {g : Nat} {f : Int → Int} (h : Counts w g f) {k : Nat} (hk : k < 2048) : w.cell? ⟨g, k, none⟩ = some (.int .i64 (f k)) := by
  obtain ⟨cur, h1, h2, h3⟩ := h
  rw [blk_cell h1]
  exact h3 k hk
theorem Counts.frozen {w : World} {g : Nat} {f : Int → Int} (h : Counts w g f) (k : Nat) : w.frozen? ⟨g, k, none⟩ = false := by
  obtain ⟨cur, h1, h2, h3⟩ := h
  exact blk_frozen h1 k
theorem Counts.drewN {w : World} {g : Nat} {f : Int → Int} (h : Counts w g f) (n : Nat) : Counts (w.drewN n) g f := h
theorem Counts.add {w : World} {g : Nat} {f f' : Int → Int} (h : Counts w g f) {p : Nat} (hp : p < 2048) (v : Int) (hv : v = f' p) (e : ∀ k : Nat, k < 2048 → k ≠ p → f k = f' k) : Counts (w.setCell ⟨g, p, none⟩ (.int .i64 v)) g f' := by
  obtain ⟨cur, h1, h2, h3⟩ := h
  refine ⟨_, blk_set h1 p _, by rw [Array.size_setIfInBounds]; exact h2, fun k hk => ?_⟩
  rw [Array.getElem?_setIfInBounds]
  by_cases c : p = k
  · rw [if_pos c, if_pos (by omega), hv, c]
  · rw [if_neg c, h3 k hk, e k hk (fun z => c z.symm)]
set_option maxRecDepth 100000 in
set_option maxHeartbeats 2000000 in
theorem covers_walk (a0 a1 : Int) (A2 : Option Addr) (c2 : Nat) (l2 r : List S25) (w : World) (hr2 : Kd.C k25 w A2 l2.length l2) (hc2 : l2.length ≤ c2) (he : gaps_edges a0 a1) (hw : gaps_walk a1 [] a0 l2 = some r) :
    Calls Try.prog 7 #[.int .i64 a0, .int .i64 a1, .slice A2 l2.length c2] w fun e w' => e = .returned (.bool true) ∧ Below w.heap.size w w' := by
  have hu := Try.underlying25
  have HG0 := Aside0.mk (show gaps_Gaps.f a0 a1 l2 = some (r, 0) by unfold gaps_Gaps.f; rw [if_pos he, hw])
  obtain ⟨h1, h2, h3, h4, h5⟩ := he
  have HU := Aside0.mk (walk_used a1 l2 r a0 hw h1)
  have HO := Aside0.mk (walk_owns a1 l2 r a0 hw h2)
  have HGD := Aside0.mk (walk_good a1 h5 l2 r a0 hw h2 h4)
  obtain ⟨hn1, hn2⟩ := walk_room a1 l2 r a0 hw h2
  have HR := Aside0.mk hr2
  obtain ⟨cs, hz, hzn, hzs, hza⟩ := zero39
  have HZ := Aside0.mk hzs
  have HZA := Aside0.mk hza
  clear hzs hza
  clear hw h4 h5 hr2
  go_enter Try.func7, Try.ntmps7
  go_wp2_with (first | (go_at_call 9; refine (joistlaw10_small.calls 5 true _ small_ok).mono ?_; rintro e w1 ⟨rfl, hb⟩; have HB1 := Aside0.mk hb; have HR1 := Aside0.mk (Kd.C_below HR.out hb); clear hb HR) | (go_at_call 14; refine (gaps_Gaps.calls a0 a1 A2 c2 l2 r 0 _ HR1.out hc2 HG0.out).mono ?_; rintro e w2 ⟨v, rfl, hv, hb⟩; have HB := Aside0.mk (below_step HB1.out hb); have HR := Aside0.mk (Kd.C_below HR1.out hb); obtain ⟨Ag, cg, rfl⟩ := Kd.R_slice hv; have HV := Aside0.mk (Kd.R_reads' hv).2.2; clear hb HB1 HR1 hv))
  go_loopw [11] (fun v11 wr => ∃ i : Nat, v11 = .int .i64 i ∧ i ≤ l2.length ∧ Aside0 (Counts wr w2.heap.size (own (l2.take i))) ∧ Aside0 (Below w2.heap.size w2 wr)) (fun v11 _ => l2.length - (intOf v11).toNat)
  case atStart =>
    refine ⟨0, rfl, Nat.zero_le _, ⟨cs, blk_new _ _, HZ.out, fun k hk => ?_⟩, ⟨below_alloc (Below.refl _ _) _⟩⟩
    rw [HZA.out k hk]; rfl
  case round =>
    obtain ⟨i, rfl, hi, HC, HBi⟩ := hrel
    obtain ⟨wo, hwo⟩ : ∃ x, x = wr := ⟨wr, rfl⟩
    subst hwo
    by_cases hlt : i < l2.length
    · obtain ⟨ad, e_, hx0, hx1⟩ := at_T25 (Kd.C_below HR.out HBi.out) (i : Int) (by omega) (by omega)
      cases e_
      rw [Int.toNat_natCast] at hx0 hx1
      obtain ⟨u1, u2, u3⟩ := HU.out _ (rd_mem hlt)
      have HT := Aside0.mk (own_take hlt)
      generalize hrd : rd_T25 l2 (i : Int) = s at hx0 hx1 u1 u2 u3 HT
      obtain ⟨s0, s1⟩ := s
      simp only at hx0 hx1 u1 u2 u3
      obtain ⟨q0, rfl⟩ : ∃ q : Nat, s0 = (q : Int) := ⟨s0.toNat, by omega⟩
      obtain ⟨q1, rfl⟩ : ∃ q : Nat, s1 = (q : Int) := ⟨s1.toNat, by omega⟩
      have HRD := Aside0.mk hrd
      clear hrd
      go_wp2
      clear hx0 hx1
      go_loopw [12] (fun v12 w' => ∃ p : Nat, v12 = .int .i64 p ∧ q0 ≤ p ∧ p ≤ q0 + q1 ∧ Aside0 (Counts w' w2.heap.size (fun x => own (l2.take i) x + if (q0 : Int) ≤ x ∧ x < p then 1 else 0)) ∧ Aside0 (Below w2.heap.size w2 w')) (fun v12 _ => q0 + q1 - (intOf v12).toNat)
      case atStart =>
        refine ⟨q0, rfl, Nat.le_refl _, by omega, ⟨HC.out.congr fun k hk => ?_⟩, HBi⟩
        rw [if_neg (by omega)]; omega
      case round =>
        obtain ⟨p, rfl, hp1, hp2, HC2, HB2⟩ := hrel
        obtain ⟨ad2, e_, hx0, hx1⟩ := at_T25 (Kd.C_below HR.out HB2.out) (i : Int) (by omega) (by omega)
        obtain rfl := Option.some.inj e_
        rw [Int.toNat_natCast, HRD.out] at hx0 hx1
        simp only at hx0 hx1
        have hsum : IntKind.i64.wrap ((q0 : Int) + (q1 : Int)) = (q0 : Int) + (q1 : Int) := w64_fit (by omega) (by omega)
        by_cases hpl : p < q0 + q1
        · have b1 : decide ((p : Int) < (q0 : Int) + (q1 : Int)) = true := decide_eq_true (by omega)
          have b2 : decide (p < q0 + q1) = true := decide_eq_true hpl
          go_wp2
          go_quiet (fail)
          have hown := own_bounds (l2.take i) (p : Int)
          have hlt2 := List.length_take_le i l2
          have hcell : wr.cell? ⟨w2.heap.size, p, none⟩ = some (.int .i64 (own (l2.take i) (p : Int) + if (q0 : Int) ≤ p ∧ (p : Int) < p then 1 else 0)) := HC2.out.cell (k := p) (by omega)
          rw [if_neg (by omega), Int.add_zero] at hcell
          have hfr := HC2.out.frozen p
          have HOW := Aside0.mk (show own (l2.take i) (p : Int) = own (l2.take i) (p : Int) from rfl)
          generalize hgo : own (l2.take i) (p : Int) = c at hown hcell
          have HGO := Aside0.mk hgo
          clear hgo hx0 hx1
          go_wp2
          go_roundw
          case rel =>
            refine ⟨p + 1, by go_num, by omega, by omega, ⟨?_⟩, ⟨(below_at rfl HB2.out).setCell (Nat.le_refl _) _⟩⟩
            refine (HC2.out.drewN _).add (by omega) _ ?_ (fun k hk hne => ?_)
            · rw [HGO.out, if_pos (by omega)]
            · congr 1
              by_cases c1 : (q0 : Int) ≤ k ∧ (k : Int) < p
              · rw [if_pos c1, if_pos (by omega)]
              · rw [if_neg c1, if_neg (by omega)]
          case measure => simp [intOf]; omega
        · have b1 : decide ((p : Int) < (q0 : Int) + (q1 : Int)) = false := decide_eq_false (by omega)
          have b2 : decide (p < q0 + q1) = false := decide_eq_false hpl
          go_wp2
          go_quiet (fail)
          go_wp2
          go_roundw
          case rel =>
            refine ⟨i + 1, by go_num, hlt, ⟨HC2.out.congr fun k hk => ?_⟩, ⟨below_at rfl HB2.out⟩⟩
            rw [HT.out]
            unfold cov
            simp only
            have hpq : (p : Int) = (q0 : Int) + (q1 : Int) := by omega
            rw [hpq]
          case measure => simp [intOf]; omega
    · have hie : i = l2.length := by omega
      have HI0 := True.intro
      have HC0 := Aside0.mk (HC.out.congr (f' := own l2) fun k hk => by rw [List.take_of_length_le (by omega)])
      clear HC
      clear hie HI0
      go_wp2
      go_loopw [13] (fun v13 wr => ∃ j : Nat, v13 = .int .i64 j ∧ j ≤ r.length ∧ Aside0 (Counts wr w2.heap.size (fun x => own l2 x + own (r.take j) x)) ∧ Aside0 (Below w2.heap.size w2 wr)) (fun v13 _ => r.length - (intOf v13).toNat)
      case atStart =>
        refine ⟨0, rfl, Nat.zero_le _, ⟨HC0.out.congr fun k hk => ?_⟩, HBi⟩
        show own l2 k = own l2 k + 0
        omega
      case round =>
        obtain ⟨j, rfl, hj, HC, HBj⟩ := hrel
        obtain ⟨wp, hwp⟩ : ∃ x, x = wr := ⟨wr, rfl⟩
        subst hwp
        by_cases hjlt : j < r.length
        · obtain ⟨ad, e_, hx0, hx1⟩ := at_T25 (Kd.C_below HV.out HBj.out) (j : Int) (by omega) (by omega)
          cases e_
          rw [Int.toNat_natCast] at hx0 hx1
          obtain ⟨g1, g2, g3, g4⟩ := HGD.out.at_ j hjlt
          have HT := Aside0.mk (own_take hjlt)
          generalize hrd : rd_T25 r (j : Int) = s at hx0 hx1 g1 g2 g3 g4 HT
          obtain ⟨s0, s1⟩ := s
          simp only at hx0 hx1 g1 g2 g3 g4
          obtain ⟨q0, rfl⟩ : ∃ q : Nat, s0 = (q : Int) := ⟨s0.toNat, by omega⟩
          obtain ⟨q1, rfl⟩ : ∃ q : Nat, s1 = (q : Int) := ⟨s1.toNat, by omega⟩
          have HRD := Aside0.mk hrd
          clear hrd
          have b1 : decide ((q0 : Int) < a0) = false := decide_eq_false (by omega)
          have b2 : decide ((q1 : Int) < 4) = false := decide_eq_false (by omega)
          have b3 : ((q1 : Int).tmod 4 != 0) = false := by rw [Int.tmod_eq_emod_of_nonneg (by omega), g3]; rfl
          have b3' : ((q1 : Int) % 4 != 0) = false := by rw [g3]; rfl
          have b4 : decide (a1 - (q0 : Int) < (q1 : Int)) = false := decide_eq_false (by omega)
          have b5 : IntKind.i64.wrap (a1 - (q0 : Int)) = a1 - (q0 : Int) := w64_fit (by omega) (by omega)
          by_cases hj0 : 0 < j
          · have b6 : decide ((0 : Int) < (j : Int)) = true := decide_eq_true (by omega)
            have b7 : decide (0 < j) = true := decide_eq_true hj0
            have c5 : IntKind.i64.wrap ((j : Int) - 1) = (j : Int) - 1 := w64_fit (by omega) (by omega)
            have c6 : (0 : Int) ≤ (j : Int) - 1 := by omega
            have c7 : (j : Int) - 1 < r.length := by omega
            have c8 : (1 : Int) ≤ (j : Int) := by omega
            have c9 : 1 ≤ j := hj0
            have hnx := HGD.out.next_ (j - 1) (by omega)
            rw [show j - 1 + 1 = j by omega, HRD.out, show ((j - 1 : Nat) : Int) = (j : Int) - 1 by omega] at hnx
            obtain ⟨m1, m2, m3, m4⟩ := HGD.out.at_ (j - 1) (by omega)
            rw [show ((j - 1 : Nat) : Int) = (j : Int) - 1 by omega] at m1 m2 m3 m4
            obtain ⟨ad2, e_, hy0, hy1⟩ := at_T25 (Kd.C_below HV.out HBj.out) ((j : Int) - 1) (by omega) (by omega)
            obtain rfl := Option.some.inj e_
            generalize rd_T25 r ((j : Int) - 1) = s at hnx hy0 hy1 m1 m2 m3 m4
            obtain ⟨s0, s1⟩ := s
            simp only at hnx hy0 hy1 m1 m2 m3 m4
            have b8 : IntKind.i64.wrap (s0 + s1) = s0 + s1 := w64_fit (by omega) (by omega)
            have b9 : decide ((q0 : Int) ≤ s0 + s1) = false := decide_eq_false (by omega)
            have hy2 := hy0
            have hy3 := hy1
            rw [show ((j : Int) - 1).toNat = j - 1 by omega] at hy2 hy3
            clear g3 m3 e_
            go_wp2
            go_quiet (fail)
            go_wp2
            clear hx0 hx1 hy0 hy1 hy2 hy3 c5 c6 c7 c8 c9 b8 b9 hnx m1 m2 m4
            go_loopw [14] (fun v14 w' => ∃ p : Nat, v14 = .int .i64 p ∧ q0 ≤ p ∧ p ≤ q0 + q1 ∧ Aside0 (Counts w' w2.heap.size (fun x => own l2 x + own (r.take j) x + if (q0 : Int) ≤ x ∧ x < p then 1 else 0)) ∧ Aside0 (Below w2.heap.size w2 w')) (fun v14 _ => q0 + q1 - (intOf v14).toNat)
            case atStart =>
              refine ⟨q0, rfl, Nat.le_refl _, by omega, ⟨(HC.out.drewN _).congr fun k hk => ?_⟩, ⟨below_at rfl HBj.out⟩⟩
              rw [if_neg (by omega)]; omega
            case round =>
              obtain ⟨p, rfl, hp1, hp2, HC2, HB2⟩ := hrel
              obtain ⟨ad2, e_, hx0, hx1⟩ := at_T25 (Kd.C_below HV.out HB2.out) (j : Int) (by omega) (by omega)
              obtain rfl := Option.some.inj e_
              rw [Int.toNat_natCast, HRD.out] at hx0 hx1
              simp only at hx0 hx1
              have hsum : IntKind.i64.wrap ((q0 : Int) + (q1 : Int)) = (q0 : Int) + (q1 : Int) := w64_fit (by omega) (by omega)
              by_cases hpl : p < q0 + q1
              · have d1 : decide ((p : Int) < (q0 : Int) + (q1 : Int)) = true := decide_eq_true (by omega)
                have d2 : decide (p < q0 + q1) = true := decide_eq_true hpl
                clear b1 b2 b3 b3' b4 b5 b6 b7
                go_wp2
                go_quiet (fail)
                have hown := own_bounds l2 (p : Int)
                have hown2 := own_bounds (r.take j) (p : Int)
                have hlt2 := List.length_take_le j r
                have hcell : wr.cell? ⟨w2.heap.size, p, none⟩ = some (.int .i64 (own l2 (p : Int) + own (r.take j) (p : Int) + if (q0 : Int) ≤ p ∧ (p : Int) < p then 1 else 0)) := HC2.out.cell (k := p) (by omega)
                rw [if_neg (by omega), Int.add_zero] at hcell
                have hfr := HC2.out.frozen p
                have hcb : 0 ≤ own l2 (p : Int) + own (r.take j) (p : Int) ∧ own l2 (p : Int) + own (r.take j) (p : Int) ≤ 2000 := by omega
                clear hown hown2 hlt2
                generalize hgo : own l2 (p : Int) + own (r.take j) (p : Int) = c at hcb hcell
                have HGO := Aside0.mk hgo
                clear hgo hx0 hx1 e_
                go_wp2
                go_roundw
                case rel =>
                  refine ⟨p + 1, by go_num, by omega, by omega, ⟨?_⟩, ⟨(below_at rfl HB2.out).setCell (Nat.le_refl _) _⟩⟩
                  refine (HC2.out.drewN _).add (by omega) _ ?_ (fun k hk hne => ?_)
                  · rw [HGO.out, if_pos (by omega)]
                  · congr 1
                    by_cases c1 : (q0 : Int) ≤ k ∧ (k : Int) < p
                    · rw [if_pos c1, if_pos (by omega)]
                    · rw [if_neg c1, if_neg (by omega)]
                case measure => simp [intOf]; omega
              · have d1 : decide ((p : Int) < (q0 : Int) + (q1 : Int)) = false := decide_eq_false (by omega)
                have d2 : decide (p < q0 + q1) = false := decide_eq_false hpl
                clear b1 b2 b3 b3' b4 b5 b6 b7
                go_wp2
                go_quiet (fail)
                go_wp2
                go_roundw
                case rel =>
                  refine ⟨j + 1, by go_num, hjlt, ⟨(HC2.out.drewN _).congr fun k hk => ?_⟩, ⟨below_at rfl HB2.out⟩⟩
                  rw [HT.out]
                  unfold cov
                  simp only
                  have hpq : (p : Int) = (q0 : Int) + (q1 : Int) := by omega
                  rw [hpq, Int.add_assoc]
                case measure => simp [intOf]; omega
          · have b6 : decide ((0 : Int) < (j : Int)) = false := decide_eq_false (by omega)
            have b7 : decide (0 < j) = false := decide_eq_false hj0
            clear g3 hj0
            go_wp2
            go_quiet (fail)
            go_wp2
            clear hx0 hx1
            go_loopw [14] (fun v14 w' => ∃ p : Nat, v14 = .int .i64 p ∧ q0 ≤ p ∧ p ≤ q0 + q1 ∧ Aside0 (Counts w' w2.heap.size (fun x => own l2 x + own (r.take j) x + if (q0 : Int) ≤ x ∧ x < p then 1 else 0)) ∧ Aside0 (Below w2.heap.size w2 w')) (fun v14 _ => q0 + q1 - (intOf v14).toNat)
            case atStart =>
              refine ⟨q0, rfl, Nat.le_refl _, by omega, ⟨(HC.out.drewN _).congr fun k hk => ?_⟩, ⟨below_at rfl HBj.out⟩⟩
              rw [if_neg (by omega)]; omega
            case round =>
              obtain ⟨p, rfl, hp1, hp2, HC2, HB2⟩ := hrel
              obtain ⟨ad2, e_, hx0, hx1⟩ := at_T25 (Kd.C_below HV.out HB2.out) (j : Int) (by omega) (by omega)
              obtain rfl := Option.some.inj e_
              rw [Int.toNat_natCast, HRD.out] at hx0 hx1
              simp only at hx0 hx1
              have hsum : IntKind.i64.wrap ((q0 : Int) + (q1 : Int)) = (q0 : Int) + (q1 : Int) := w64_fit (by omega) (by omega)
              by_cases hpl : p < q0 + q1
              · have d1 : decide ((p : Int) < (q0 : Int) + (q1 : Int)) = true := decide_eq_true (by omega)
                have d2 : decide (p < q0 + q1) = true := decide_eq_true hpl
                clear b1 b2 b3 b3' b4 b5 b6 b7
                go_wp2
                go_quiet (fail)
                have hown := own_bounds l2 (p : Int)
                have hown2 := own_bounds (r.take j) (p : Int)
                have hlt2 := List.length_take_le j r
                have hcell : wr.cell? ⟨w2.heap.size, p, none⟩ = some (.int .i64 (own l2 (p : Int) + own (r.take j) (p : Int) + if (q0 : Int) ≤ p ∧ (p : Int) < p then 1 else 0)) := HC2.out.cell (k := p) (by omega)
                rw [if_neg (by omega), Int.add_zero] at hcell
                have hfr := HC2.out.frozen p
                have hcb : 0 ≤ own l2 (p : Int) + own (r.take j) (p : Int) ∧ own l2 (p : Int) + own (r.take j) (p : Int) ≤ 2000 := by omega
                clear hown hown2 hlt2
                generalize hgo : own l2 (p : Int) + own (r.take j) (p : Int) = c at hcb hcell
                have HGO := Aside0.mk hgo
                clear hgo hx0 hx1 e_
                go_wp2
                go_roundw
                case rel =>
                  refine ⟨p + 1, by go_num, by omega, by omega, ⟨?_⟩, ⟨(below_at rfl HB2.out).setCell (Nat.le_refl _) _⟩⟩
                  refine (HC2.out.drewN _).add (by omega) _ ?_ (fun k hk hne => ?_)
                  · rw [HGO.out, if_pos (by omega)]
                  · congr 1
                    by_cases c1 : (q0 : Int) ≤ k ∧ (k : Int) < p
                    · rw [if_pos c1, if_pos (by omega)]
                    · rw [if_neg c1, if_neg (by omega)]
                case measure => simp [intOf]; omega
              · have d1 : decide ((p : Int) < (q0 : Int) + (q1 : Int)) = false := decide_eq_false (by omega)
                have d2 : decide (p < q0 + q1) = false := decide_eq_false hpl
                clear b1 b2 b3 b3' b4 b5 b6 b7
                go_wp2
                go_quiet (fail)
                go_wp2
                go_roundw
                case rel =>
                  refine ⟨j + 1, by go_num, hjlt, ⟨(HC2.out.drewN _).congr fun k hk => ?_⟩, ⟨below_at rfl HB2.out⟩⟩
                  rw [HT.out]
                  unfold cov
                  simp only
                  have hpq : (p : Int) = (q0 : Int) + (q1 : Int) := by omega
                  rw [hpq, Int.add_assoc]
                case measure => simp [intOf]; omega
        · have HCF := Aside0.mk (HC.out.congr (f' := fun x => if a0 ≤ x ∧ x < a1 then 1 else 0) fun k hk => by
            rw [← HO.out, List.take_of_length_le (by omega)])
          clear HC
          go_wp2
          go_loopw [15] (fun v15 w' => ∃ k : Nat, v15 = .int .i64 k ∧ k ≤ 2048 ∧ w' = wp) (fun v15 _ => 2048 - (intOf v15).toNat)
          case atStart => exact ⟨0, rfl, by omega, rfl⟩
          case round =>
            obtain ⟨k, rfl, hk, rfl⟩ := hrel
            by_cases hkl : k < 2048
            · have hcell := HCF.out.cell hkl
              by_cases hin : a0 ≤ (k : Int) ∧ (k : Int) < a1
              · rw [if_pos hin] at hcell
                obtain ⟨i1, i2⟩ := hin
                go_wp2
                go_roundw
                case rel => exact ⟨k + 1, by go_num, by omega, trivial⟩
                case measure => simp [intOf]; omega
              · rw [if_neg hin] at hcell
                by_cases hi1 : (k : Int) < a0
                · clear hin
                  go_wp2
                  go_roundw
                  case rel => exact ⟨k + 1, by go_num, by omega, trivial⟩
                  case measure => simp [intOf]; omega
                · have hi2 : a1 ≤ (k : Int) := by omega
                  clear hin
                  go_wp2
                  go_roundw
                  case rel => exact ⟨k + 1, by go_num, by omega, trivial⟩
                  case measure => simp [intOf]; omega
            · go_wp2
              go_ret
              exact ⟨rfl, below_step HB.out HBj.out⟩
set_option maxRecDepth 100000 in
theorem covers_not (a0 a1 : Int) (A2 : Option Addr) (c2 : Nat) (l2 : List S25) (w : World) (hr2 : Kd.C k25 w A2 l2.length l2) (hc2 : l2.length ≤ c2) (hG : gaps_Gaps.f a0 a1 l2 = some ([], 1)) (hQ : gaps_Right.f a0 a1 l2 = some false) :
    Calls Try.prog 7 #[.int .i64 a0, .int .i64 a1, .slice A2 l2.length c2] w fun e w' => e = .returned (.bool true) ∧ Below w.heap.size w w' := by
  have HG0 := Aside0.mk hG
  have HQ0 := Aside0.mk hQ
  have HR := Aside0.mk hr2
  clear hG hQ hr2
  go_enter Try.func7, Try.ntmps7
  go_wp2_with (first | (go_at_call 9; refine (joistlaw10_small.calls 5 true _ small_ok).mono ?_; rintro e w1 ⟨rfl, hb⟩; have HB1 := Aside0.mk hb; have HR1 := Aside0.mk (Kd.C_below HR.out hb); clear hb HR) | (go_at_call 14; refine (gaps_Gaps.calls a0 a1 A2 c2 l2 [] 1 _ HR1.out hc2 HG0.out).mono ?_; rintro e w2 ⟨v, rfl, hv, hb⟩; have HB := Aside0.mk (below_step HB1.out hb); have HR := Aside0.mk (Kd.C_below HR1.out hb); obtain ⟨Ag, cg, rfl⟩ := Kd.R_slice hv; clear hb HB1 HR1 hv) | (go_at_call 19; refine (gaps_Right.calls a0 a1 A2 c2 l2 false _ HR.out hc2 HQ0.out).mono ?_; rintro e w3 ⟨rfl, hb⟩; have HB3 := Aside0.mk (below_step HB.out hb); clear hb))
  go_ret
  exact ⟨rfl, HB3.out⟩
/-- The law's value: true. -/
def joistlaw10_GapsCovers.f (a0 a1 : Int) (l2 : List S25) : Option Bool := some true
theorem joistlaw10_GapsCovers.calls (a0 a1 : Int) (A2 : Option Addr) (c2 : Nat) (l2 : List S25) (r : Bool) (w : World) (hr2 : Kd.C k25 w A2 l2.length l2) (hc2 : l2.length ≤ c2) (h : joistlaw10_GapsCovers.f a0 a1 l2 = some r) :
    Calls Try.prog 7 #[.int .i64 a0, .int .i64 a1, .slice A2 l2.length c2] w fun e w' => e = .returned (.bool r) ∧ Below w.heap.size w w' := by
  obtain rfl : true = r := Option.some.inj h
  by_cases he : gaps_edges a0 a1
  · cases hw : gaps_walk a1 [] a0 l2 with
    | some g => exact covers_walk a0 a1 A2 c2 l2 g w hr2 hc2 he hw
    | none => exact covers_not a0 a1 A2 c2 l2 w hr2 hc2 (by unfold gaps_Gaps.f; rw [if_pos he, hw]) (by unfold gaps_Right.f; rw [if_pos he, hw]; rfl)
  · exact covers_not a0 a1 A2 c2 l2 w hr2 hc2 (by unfold gaps_Gaps.f; rw [if_neg he]) (by unfold gaps_Right.f; rw [if_neg he])
end Go.Proofs.Ytcjalhlejneddaa.P
