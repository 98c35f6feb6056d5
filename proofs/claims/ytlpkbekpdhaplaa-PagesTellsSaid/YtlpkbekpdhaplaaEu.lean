/- What pages.Runs returns: the rows of free pages. -/
import Derived.Test.YtlpkbekpdhaplaaP0
import Derived.WalkSpells
import Derived.LoopTactic
import Derived.Outline
namespace Go.Proofs.Ytlpkbekpdhaplaa.P
open Go.RowKit Go.Proofs.YtlpkbekpdhaplaaW.PrintWords Go.Proofs.YtlpkbekpdhaplaaW.PrintLast Go.Proofs.YtlpkbekpdhaplaaW.PrintMore
set_option linter.unusedVariables false
set_option linter.unusedSimpArgs false

/-- The last row is one page longer. -/
def bump (out : List S48) : List S48 := out.set (out.length - 1) ⟨(rd_T48 out ((out.length : Int) - 1)).f0, (rd_T48 out ((out.length : Int) - 1)).f1 + 1⟩
def stepR (i : Nat) (k : Int) (st : List S48 × Bool) : List S48 × Bool :=
  if k = -1 then (if st.2 = true then (bump st.1, true) else (st.1 ++ [⟨(i : Int), 1⟩], true)) else (st.1, false)
def runsOf : Nat → List Int → List S48 × Bool → List S48
  | _, [], st => st.1
  | i, k :: r, st => runsOf (i + 1) r (stepR i k st)
structure RunsAt (l0 : List Int) (R : List S48) (i : Nat) (out : List S48) (b : Bool) : Prop where
  hk : i ≤ l0.length
  hl : out.length ≤ i
  hb : b = true → 0 < out.length
  hf : ∀ s ∈ out, 0 ≤ s.f1 ∧ s.f1 ≤ i
  hw : runsOf i (l0.drop i) (out, b) = R
theorem rd_drop {l : List Int} {i : Nat} (h : i < l.length) : l.drop i = rd l (i : Int) :: l.drop (i + 1) := by
  rw [List.drop_eq_getElem_cons h]
  congr 1
  unfold rd
  rw [Int.toNat_natCast, List.getD_eq_getElem?_getD, List.getElem?_eq_getElem h]
  rfl
theorem rdS_mem {l : List S48} {i : Int} (h0 : 0 ≤ i) (h : i < l.length) : rd_T48 l i ∈ l := by
  unfold rd_T48
  rw [List.getD_eq_getElem?_getD, List.getElem?_eq_getElem (by omega)]
  exact List.getElem_mem _
theorem RunsAt.no {l0 : List Int} {R out : List S48} {i : Nat} {b : Bool} (h : RunsAt l0 R i out b) (hi : i < l0.length) (hk : rd l0 (i : Int) ≠ -1) : RunsAt l0 R (i + 1) out false := by
  have hw := h.hw
  rw [rd_drop hi] at hw
  simp only [runsOf, stepR] at hw
  rw [if_neg hk] at hw
  exact ⟨hi, by have := h.hl; omega, fun e => Bool.noConfusion e, fun s hs => by have := h.hf s hs; omega, hw⟩
theorem RunsAt.new {l0 : List Int} {R out : List S48} {i : Nat} (h : RunsAt l0 R i out false) (hi : i < l0.length) (hk : rd l0 (i : Int) = -1) : RunsAt l0 R (i + 1) (out ++ [⟨(i : Int), 1⟩]) true := by
  have hw := h.hw
  rw [rd_drop hi] at hw
  simp only [runsOf, stepR] at hw
  rw [if_pos hk, if_neg (by decide)] at hw
  refine ⟨hi, by have := h.hl; rw [List.length_append, List.length_singleton]; omega, fun _ => by rw [List.length_append, List.length_singleton]; omega, fun s hs => ?_, hw⟩
  rcases List.mem_append.1 hs with hs | hs
  · have := h.hf s hs; omega
  · rw [List.mem_singleton.1 hs]; simp only; omega
theorem RunsAt.more {l0 : List Int} {R out : List S48} {i : Nat} (h : RunsAt l0 R i out true) (hi : i < l0.length) (hk : rd l0 (i : Int) = -1) : RunsAt l0 R (i + 1) (bump out) true := by
  have hw := h.hw
  rw [rd_drop hi] at hw
  simp only [runsOf, stepR] at hw
  rw [if_pos hk, if_pos trivial] at hw
  have h0 := h.hb rfl
  refine ⟨hi, by have := h.hl; unfold bump; rw [List.length_set]; omega, fun _ => by unfold bump; rw [List.length_set]; exact h0, fun s hs => ?_, hw⟩
  unfold bump at hs
  rcases List.mem_or_eq_of_mem_set hs with hs | rfl
  · have := h.hf s hs; omega
  · have := h.hf _ (rdS_mem (l := out) (i := (out.length : Int) - 1) (by omega) (by omega))
    simp only; omega
theorem RunsAt.done {l0 : List Int} {R out : List S48} {i : Nat} {b : Bool} (h : RunsAt l0 R i out b) (hi : ¬ i < l0.length) : out = R := by
  have hw := h.hw
  rw [List.drop_of_length_le (by omega)] at hw
  exact hw
def pages_Runs.f (l0 : List Int) : Option (List S48) := if l0.length ≤ 8796093022200 then some (runsOf 0 l0 ([], false)) else none
set_option maxRecDepth 100000 in
set_option maxHeartbeats 1000000 in
theorem pages_Runs.calls (A0 : Option Addr) (c0 : Nat) (l0 : List Int) (r : List S48) (w : World) (hr0 : Kd.C (Kd.int .i64) w A0 l0.length l0) (hc0 : l0.length ≤ c0) (h : pages_Runs.f l0 = some r) :
    Calls Try.prog 31 #[.slice A0 l0.length c0] w fun e w' => ∃ v0_ : Value, e = .returned (v0_) ∧ Kd.R k48 48 w' w.heap.size (fun _ => True) v0_ r ∧ Below w.heap.size w w' := by
  unfold pages_Runs.f at h
  by_cases hl : l0.length ≤ 8796093022200
  · rw [if_pos hl] at h
    obtain rfl := Option.some.inj h
    have hu := Try.underlying48
    have HR0 := Aside0.mk hr0
    have HRR := Aside0.mk (show RunsAt l0 (runsOf 0 l0 ([], false)) 0 [] false from ⟨Nat.zero_le _, Nat.le_refl _, (fun e => Bool.noConfusion e), (fun s hs => by cases hs), rfl⟩)
    generalize runsOf 0 l0 ([], false) = R at HRR ⊢
    clear h hr0 hc0
    go_enter Try.func31, Try.ntmps31
    go_wp2
    go_loopw [3, 4, 10] (fun v3 v4 v10 wc => ∃ (i : Nat) (out : List S48) (b : Bool), v4 = .bool b ∧ v10 = .int .i64 i ∧ i ≤ l0.length ∧ Aside0 (RunsAt l0 R i out b) ∧ Aside0 (Kd.R k48 48 wc w.heap.size (fun _ => True) v3 out) ∧ Aside0 (Below w.heap.size w wc)) (fun _ _ v10 _ => l0.length - (intOf v10).toNat)
    case atStart => exact ⟨0, [], false, rfl, rfl, Nat.zero_le _, HRR, ⟨Kd.R_nil _ _ _ _ _⟩, ⟨Below.refl _ _⟩⟩
    case round =>
      obtain ⟨i, out, b, rfl, rfl, hi, HA, HO, HB⟩ := hrel
      by_cases hlt : i < l0.length
      · obtain ⟨ad, e_, hx⟩ := Kd.at_int (Kd.C_below HR0.out HB.out) (i : Int) (by omega) (by omega)
        cases e_
        rw [Int.toNat_natCast] at hx
        have hol := HA.out.hl
        by_cases hk : rd l0 (i : Int) = -1
        · have e1 : (rd l0 (i : Int) == -1) = true := by rw [hk]; rfl
          cases b with
          | false =>
            have HN := Aside0.mk (HA.out.new hlt hk)
            clear HA hk
            generalize rd l0 (i : Int) = kk at hx e1
            go_wp2_with (first | ((with_reducible refine gate_builtin (b := .append) (xs := #[.tmp 34, .tmp 37]) rfl ?_); at_builtin; go_loud (refine Kd.R_append k48 (w0 := w) w.heap.size rfl (.tmp 34) (.tmp 37) 36 48 (.agg #[(.int .i64 0), (.int .i64 0)]) 16 rfl Try.underlying36 info48 rfl (by decide) (by omega) u3 out (⟨(i : Int), 1⟩ : S48) [.int .i64 i, .int .i64 1] (fun _ => True) (fun _ => False) rfl rfl ?aP (fun _ hk => hk.elim) ?aF ?aO ?aB ?aS ?aL ?_); (case aP => exact k48_mkM _ _ _ (⟨(i : Int), 1⟩ : S48)); (case aB => exact (by repeat (first | (with_reducible first | exact HB.out | apply below_alloc | apply pw_below_drewN | apply below_drew1) | exact HB.out))); (case aF => exact (fun _ _ => trivial)); (case aO => exact (by (with_reducible repeat (first | apply Kd.R_alloc | apply Kd.R_drewN | apply Kd.R_drew)); exact HO.out)); (case aS => exact (below_size (by repeat (first | (with_reducible first | exact HB.out | apply below_alloc | apply pw_below_drewN | apply below_drew1) | exact HB.out)))); (case aL => omega); intro v2 w2 ho hb hg hat; have HO2 := Aside0.mk ho; have HB2 := Aside0.mk hb; clear ho hb hg hat))
            go_roundw
            case rel => exact ⟨i + 1, _, true, by first | rfl | (simp [e1]; done), by go_num, hlt, HN, HO2, HB2⟩
            case measure => simp [intOf]; omega
          | true =>
            have h0 := HA.out.hb rfl
            have HN := Aside0.mk (HA.out.more hlt hk)
            have hlast := HA.out.hf _ (rdS_mem (l := out) (i := (out.length : Int) - 1) (by omega) (by omega))
            clear HA hk
            generalize rd l0 (i : Int) = kk at hx e1
            obtain ⟨go1, co1, eo1, gb1, gl1, cl1, HG1⟩ := Kd.R_form HO.out (by omega)
            subst eo1
            have hji : IntKind.i64.wrap ((out.length : Int) - 1) = (out.length : Int) - 1 := by rw [i64_w]; unfold wrap64; omega
            have b0 : (0 : Int) ≤ (out.length : Int) - 1 := by omega
            have b1 : (out.length : Int) - 1 < out.length := by omega
            have b2 : (1 : Int) ≤ (out.length : Int) := by omega
            obtain ⟨ce, hcl, hM, hcc, hfr⟩ := Kd.R_elem HO.out z48 ((out.length : Int) - 1) b0 b1
            obtain rfl := k48_openM hM
            have HP := Aside0.mk (Kd.R_seg HO.out ((out.length : Int) - 1) b0 b1 (seg := [.int .i64 ((rd_T48 out ((out.length : Int) - 1)).f1 + 1)]) (j := 1) hcl hcc (show 2 ≤ 2 from by decide) (x' := (⟨(rd_T48 out ((out.length : Int) - 1)).f0, (rd_T48 out ((out.length : Int) - 1)).f1 + 1⟩ : S48)) (k48_mkM _ _ _ _) (fun _ hk => hk))
            have hc1 : wr.cell? ⟨go1, ((out.length : Int) - 1).toNat * 2 + 1, none⟩ = some (.int .i64 (rd_T48 out ((out.length : Int) - 1)).f1) := hcc 1 _ rfl
            have hf1 : wr.frozen? ⟨go1, ((out.length : Int) - 1).toNat * 2 + 1, none⟩ = false := hfr 1
            have hc2 := hc1
            have hf2 := hf1
            rw [show ((out.length : Int) - 1).toNat = out.length - 1 by omega] at hc2 hf2
            clear hcl hcc hfr hM
            generalize hls : rd_T48 out ((out.length : Int) - 1) = ls at hc1 hc2 HP hlast
            have HLS := Aside0.mk hls
            clear hls
            go_wp2
            go_roundw
            case rel =>
              have hq := HP.out.1
              rw [show ((out.length : Int) - 1).toNat = out.length - 1 by omega] at hq
              refine ⟨i + 1, bump out, true, by first | rfl | (simp [e1]; done), by go_num, hlt, HN, ⟨?_⟩, ⟨HB.out.setCell gb1 _⟩⟩
              unfold bump
              rw [HLS.out]
              exact hq
            case measure => simp [intOf]; omega
        · have e1 : (rd l0 (i : Int) == -1) = false := beq_eq_false_iff_ne.2 hk
          have HN := Aside0.mk (HA.out.no hlt hk)
          clear HA hk
          generalize rd l0 (i : Int) = kk at hx e1
          go_wp2
          go_roundw
          case rel => exact ⟨i + 1, out, false, by first | rfl | (simp [e1]; done), by go_num, hlt, HN, HO, HB⟩
          case measure => simp [intOf]; omega
      · obtain rfl := HA.out.done hlt
        go_wp2
        go_ret
        exact ⟨_, rfl, HO.out, HB.out⟩
  · rw [if_neg hl] at h; cases h
end Go.Proofs.Ytlpkbekpdhaplaa.P
