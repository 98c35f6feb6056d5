/- The law NamesCodes, walked. -/
import Derived.Test.YtlhemachmidoaaaDoorR6
import Derived.Test.YtlhemachmidoaaaDoorEl
import Derived.Test.YtlhemachmidoaaaDoorEo
import Derived.Test.YtlhemachmidoaaaDoorP10
namespace Go.Proofs.YtlhemachmidoaaaDoor.Pure
open Go.RowKit Go.Proofs.YtlhemachmidoaaaDoor.P Go.Proofs.YtlhemachmidoaaaDoorW.PrintWords Go.Proofs.YtlhemachmidoaaaDoorW.PrintLast Go.Proofs.YtlhemachmidoaaaDoorW.PrintMore
set_option linter.unusedVariables false
set_option linter.unusedSimpArgs false

theorem drawn_below {w w' : World} (h : Drawn0 w w') : Below w.heap.size w w' := by
  obtain ⟨nd, rfl⟩ := h
  exact pw_below_drewN (Below.refl _ _) nd
theorem row_of {w : World} {base : Nat} {v : Value} {xs : List Int} (h : Kd.R (Kd.int .u8) 5 w base (fun _ => True) v xs) : RowW w v none := by
  rcases (Kd.own_of_R h).2 with ⟨hv, _⟩ | ⟨g, cap, cur, hv, _, hg, hn, hm, hs, _⟩
  · exact .inl hv
  · exact .inr ⟨g, xs.length, cap, cur, hv, hn, hm, hg, by omega, fun x hx => by cases hx⟩
theorem row_lent {w : World} {g : Nat} {l : List Int} (h : w.heap[g]? = some (.cells (lentRow l) 5 (0, 0))) (hl : l.length ≤ 140737488351232) : RowW w (.slice (some ⟨g, 0, none⟩) l.length (l.length + 1)) none := by
  refine .inr ⟨g, l.length, l.length + 1, lentRow l, rfl, by omega, by unfold maxLen; omega, h, ?_, fun x hx => by cases hx⟩
  unfold lentRow
  rw [List.size_toArray, encs_length, List.length_append, List.length_singleton]
/-- The two rows that the law hands to Owned. -/
theorem two_rows {W : World} {base n2 : Nat} {vx vy : Value} {g : Nat} {l xs : List Int} (hx : Kd.R (Kd.int .u8) 5 W n2 (fun _ => True) vx xs) (hg : W.heap[g]? = some (.cells (lentRow l) 5 (0, 0))) (hl : l.length ≤ 140737488351232)
    (hgn : g < n2) (hb1 : base ≤ n2) (hb2 : base ≤ g) (hy : vy = .slice (some ⟨g, 0, none⟩) l.length (l.length + 1)) :
    RowsW (W.alloc (.cells #[vx, vy] 25)) W.heap.size [vx, vy] 0 ∧ ApartW [vx, vy] ∧ ∀ j (hj : j < [vx, vy].length) b, [vx, vy][j].ownBlock = some b → base ≤ b := by
  subst hy
  have hbx := Kd.R_base hx
  refine ⟨⟨Array.getElem?_push_size, fun j hj => ?_⟩, ?_, ?_⟩
  · rw [if_neg (by omega)]
    match j, hj with
    | 0, _ => exact row_of (Kd.R_alloc hx _)
    | 1, _ => exact row_lent (blk_alloc hg _) hl
  · intro j hj k hk hjk b hb hb2'
    match j, hj, k, hk, hjk with
    | 0, _, 1, _, _ =>
      have h1 := hbx b hb
      have h2 : some g = some b := hb2'
      have := Option.some.inj h2
      omega
    | 1, _, 0, _, _ =>
      have h1 := hbx b hb2'
      have h2 : some g = some b := hb
      have := Option.some.inj h2
      omega
    | 0, _, 0, _, h => exact h rfl
    | 1, _, 1, _, h => exact h rfl
  · intro j hj b hb
    match j, hj with
    | 0, _ => exact Nat.le_trans hb1 (hbx b hb)
    | 1, _ =>
      have h2 : some g = some b := hb
      rw [← Option.some.inj h2]
      exact hb2
set_option maxRecDepth 100000 in
set_option maxHeartbeats 4000000 in
theorem codes_walk (a0 : ByteArray) (A0 : Option Addr) (c0 : Nat) (l : List Int) (w : World) (hr0 : Kd.C (Kd.int .u8) w A0 l.length l) (hc0 : l.length ≤ c0) (hl : l.length ≤ 140737488351232) :
    Calls Tryd.prog 4 #[.string a0, .slice A0 l.length c0] w fun e w' => e = .returned (.bool true) ∧ Below w.heap.size w w' := by
  have HSM := Aside0.mk small_true
  have HR := Aside0.mk hr0
  have HB := Aside0.mk (Below.refl w.heap.size w)
  clear hr0
  obtain ⟨⟨X, E⟩, hE⟩ : ∃ p, names_Bytes.f a0 = some p := ⟨_, rfl⟩
  obtain ⟨⟨u1, u2⟩, hU⟩ : ∃ p, names_Read.f l = some p := ⟨_, rfl⟩
  have HE := Aside0.mk hE
  have HU := Aside0.mk hU
  have HE2 := Aside0.mk ((refBytes_is a0 100 (by omega)).trans hE)
  have HU2 := Aside0.mk ((refRead_is l 100 (by omega)).trans hU)
  clear hE hU
  go_enter Tryd.func4, Tryd.ntmps4
  go_wp2_with (first | (go_at_call 10; refine (joistlaw06_small.calls true _ HSM.out).mono ?_; rintro e w1 ⟨rfl, hb⟩; have n1 := Aside0.mk (below_step HB.out hb); have n2 := Aside0.mk (Kd.C_below HR.out hb); clear HB HR; have HB := n1; have HR := n2; clear n1 n2; clear hb; have HB1 := HB) | (go_at_call 15; refine (joistlaw01_Lent.calls A0 c0 l _ HR.out hc0 hl).mono ?_; rintro e w2 ⟨g, rfl, hge, hg, hb⟩; have n1 := Aside0.mk (below_step HB.out hb); have n2 := Aside0.mk (Kd.C_below HR.out hb); clear HB HR; have HB := n1; have HR := n2; clear n1 n2; have HG := Aside0.mk hg; have HGB := Aside0.mk (Nat.le_trans (below_size HB1.out) hge); have HGN := Aside0.mk (blk_lt hg); have HN2 := Aside0.mk (below_size HB.out); clear hg hge hb) | (go_at_call 16; refine (names_Bytes.calls a0 X E _ HE.out).mono ?_; rintro e w3 ⟨vx, rfl, hx, hb⟩; have n1 := Aside0.mk (below_step HB.out hb); have n2 := Aside0.mk (Kd.C_below HR.out hb); have n3 := Aside0.mk ((hb.block _ (blk_lt HG.out)).trans HG.out); clear HB HR HG; have HB := n1; have HR := n2; have HG := n3; clear n1 n2 n3; obtain ⟨Ax, cx, rfl⟩ := Kd.R_slice hx; have HX := Aside0.mk hx; clear hx hb) | (go_at_call 17; refine (names_Read.calls (some ⟨g, 0, none⟩) (l.length + 1) l u1 u2 _ (lent_C HG.out hl) (Nat.le_succ _) HU.out).mono ?_; rintro e w4 ⟨rfl, hb⟩; have n1 := Aside0.mk (below_step HB.out hb); have n2 := Aside0.mk (Kd.C_below HR.out hb); have n3 := Aside0.mk ((hb.block _ (blk_lt HG.out)).trans HG.out); have n4 := Aside0.mk (Kd.R_below HX.out hb); clear HB HR HG HX; have HB := n1; have HR := n2; have HG := n3; have HX := n4; clear n1 n2 n3 n4; clear hb) | (go_at_call 18; refine (joistlaw01_Kept.calls g A0 c0 l _ HG.out HR.out hc0 hl).mono ?_; rintro e w5 ⟨rfl, hd⟩; have hb := drawn_below hd; clear hd; have n1 := Aside0.mk (below_step HB.out hb); have n2 := Aside0.mk (Kd.C_below HR.out hb); have n3 := Aside0.mk ((hb.block _ (blk_lt HG.out)).trans HG.out); have n4 := Aside0.mk (Kd.R_below HX.out hb); clear HB HR HG HX; have HB := n1; have HR := n2; have HG := n3; have HX := n4; clear n1 n2 n3 n4; clear hb) | (go_at_call 19; refine (joistref06_Bytes.calls 100 a0 X E _ HE2.out).mono ?_; rintro e w6 ⟨vy, rfl, hy, hb⟩; have n1 := Aside0.mk (below_step HB.out hb); have n2 := Aside0.mk (Kd.C_below HR.out hb); have n3 := Aside0.mk ((hb.block _ (blk_lt HG.out)).trans HG.out); have n4 := Aside0.mk (Kd.R_below HX.out hb); clear HB HR HG HX; have HB := n1; have HR := n2; have HG := n3; have HX := n4; clear n1 n2 n3 n4; obtain ⟨Ay, cy, rfl⟩ := Kd.R_slice hy; have HY := Aside0.mk hy; clear hy hb) | (go_at_call 20; refine (joistref06_Read.calls 100 A0 c0 l u1 u2 _ HR.out hc0 HU2.out).mono ?_; rintro e w7 ⟨rfl, hd⟩; have hb := drawn_below hd; clear hd; have n1 := Aside0.mk (below_step HB.out hb); have n2 := Aside0.mk (Kd.C_below HR.out hb); have n3 := Aside0.mk ((hb.block _ (blk_lt HG.out)).trans HG.out); have n4 := Aside0.mk (Kd.R_below HX.out hb); have n5 := Aside0.mk (Kd.R_below HY.out hb); clear HB HR HG HX HY; have HB := n1; have HR := n2; have HG := n3; have HX := n4; have HY := n5; clear n1 n2 n3 n4 n5; have hcvx := Kd.C_string (P := Tryd.prog) (A := Ax) (c := cx) Tryd.underlying25 Tryd.underlying5 Tryd.underlying9 (Kd.R_reads' HX.out).2.2; have hcvy := Kd.C_string (P := Tryd.prog) (A := Ay) (c := cy) Tryd.underlying25 Tryd.underlying5 Tryd.underlying9 (Kd.R_reads' HY.out).2.2; have HT := Aside0.mk (two_rows HX.out HG.out hl HGN.out HN2.out HGB.out rfl); have HLT := Aside0.mk (Below.alloc HB.out (below_size HB.out) (.cells #[.slice Ax X.length cx, .slice (some ⟨g, 0, none⟩) l.length (l.length + 1)] 25)); clear hb) | (go_at_call 21; refine (joistlaw01_Owned.calls _ _ w.heap.size w _ HT.out.1 HT.out.2.1 (Nat.le_of_ble_eq_true rfl) HLT.out HT.out.2.2).mono ?_; rintro e w8 ⟨rfl, hb8⟩; have HB8 := Aside0.mk hb8; clear hb8))
  go_ret
  exact ⟨by first | rfl | (simp; done) | (simp [*]; done), HB8.out⟩
theorem codes_law (a0 : ByteArray) (a1 : Option Addr) (len1 cap1 : Nat) (z1 : List Int) (w : World) (w0 : a0.size ≤ 140737488351232) (w1 : (a1 = none ∧ len1 = 0 ∧ cap1 = 0 ∧ z1 = []) ∨ ∃ x, a1 = some x ∧ len1 ≤ cap1 ∧ cap1 ≤ maxLen ∧ z1.length = cap1 ∧ (∀ i, i < z1.length → w.cell? (x.add i) = some (.int .u8 (z1.getD i 0))) ∧ ∀ n ∈ z1, (Lit.int .u8 n).wf = true) (y1 : len1 * 1 ≤ 140737488351232) :
    Calls Tryd.prog 4 #[.string a0, .slice a1 len1 cap1] w fun e w' => e = .returned (.bool true) ∧ Below w.heap.size w w' := by
  obtain ⟨l1, rfl, hr1, hm1, hw1, hc1⟩ := ReadsInt.ofRowC w1
  exact codes_walk a0 a1 cap1 l1 w (Kd.C_of_reads (d := (0 : Int)) (h1 := fun _ => rfl) hr1) hc1 (by omega)
end Go.Proofs.YtlhemachmidoaaaDoor.Pure
