/- (*pages.layout).cell: the first free cell of a class. -/
import Derived.Test.YtlpkbekpdhaplaaEq
namespace Go.Proofs.Ytlpkbekpdhaplaa.P
open Go.RowKit Go.Proofs.YtlpkbekpdhaplaaW.PrintWords Go.Proofs.YtlpkbekpdhaplaaW.PrintLast Go.Proofs.YtlpkbekpdhaplaaW.PrintMore
set_option linter.unusedVariables false
set_option linter.unusedSimpArgs false

/-- The first one, from place i on, of d places. -/
def scanFrom {β : Type} (f : Nat → Option β) : Nat → Nat → Option β
  | 0, _ => none
  | d + 1, i => match f i with | some b => some b | none => scanFrom f d (i + 1)
theorem scan_skip {β : Type} (f : Nat → Option β) : ∀ (j d i : Nat), (∀ q, i ≤ q → q < i + j → f q = none) → scanFrom f (j + d) i = scanFrom f d (i + j)
  | 0, d, i, _ => by rw [Nat.zero_add]; rfl
  | j + 1, d, i, h => by
    rw [Nat.add_right_comm]
    simp only [scanFrom]
    rw [h i (Nat.le_refl _) (by omega)]
    simp only
    rw [scan_skip f j d (i + 1) (fun q h1 h2 => h q (by omega) (by omega))]
    congr 1
    omega
def first {β : Type} (f : Nat → Option β) (n : Nat) : Option β := scanFrom f n 0
theorem first_hit {β : Type} {f : Nat → Option β} {n p : Nat} {b : β} (hp : p < n) (hb : f p = some b) (h : ∀ q, q < p → f q = none) : first f n = some b := by
  unfold first
  obtain ⟨d, rfl⟩ : ∃ d, n = p + (d + 1) := ⟨n - p - 1, by omega⟩
  rw [scan_skip f p (d + 1) 0 (fun q _ h2 => h q (by omega)), Nat.zero_add]
  simp only [scanFrom, hb]
theorem first_none {β : Type} {f : Nat → Option β} {n : Nat} (h : ∀ q, q < n → f q = none) : first f n = none := by
  unfold first
  have := scan_skip f n 0 0 (fun q _ h2 => h q (by omega))
  rw [Nat.add_zero] at this
  rw [this]
  rfl
/-- The first cell of a slab that is free. -/
def freeBit (c M : Nat) : Option Nat := first (fun k => if c.testBit k = true then none else some k) M
def slabOf (ks : List Int) (cs : List Nat) (cl : Int) (M p : Nat) : Option (Nat × Nat) := if ks.getD p 0 = cl then (freeBit (cs.getD p 0) M).map fun k => (p, k) else none
def pageOf (ks : List Int) (p : Nat) : Option Nat := if ks.getD p 0 = -1 then some p else none
def cellRes (ks : List Int) (cs : List Nat) (cl : Int) : Int × Bool :=
  match first (slabOf ks cs cl (28 / wordsOf cl).toNat) ks.length with
  | some (p, k) => ((p : Int) * 32 + (4 + (k : Int) * wordsOf cl), true)
  | none => match first (pageOf ks) ks.length with
    | some p => ((p : Int) * 32 + 4, true)
    | none => (0, false)
theorem bit_test (c k : Nat) (hc : c < 18446744073709551616) : (bits .and .u64 ((c : Int) / 2 ^ k) 1 == 0) = !c.testBit k := by
  have h1 : ((c : Int) / 2 ^ k) = ((c / 2 ^ k : Nat) : Int) := by
    rw [Int.natCast_ediv, Int.natCast_pow]; rfl
  have h2 := bits_and_u64_nat (c / 2 ^ k) 1 (Nat.lt_of_le_of_lt (Nat.div_le_self _ _) hc) (by decide)
  rw [h1, show (1 : Int) = ((1 : Nat) : Int) from rfl, h2]
  have h3 : c.testBit k = ((c / 2 ^ k &&& 1) != 0) := by
    unfold Nat.testBit
    rw [Nat.shiftRight_eq_div_pow, Nat.and_comm]
  rw [h3]
  cases h4 : ((c / 2 ^ k &&& 1) != 0)
  · have : (c / 2 ^ k &&& 1) = 0 := by simpa using h4
    rw [this]; rfl
  · have : (c / 2 ^ k &&& 1) ≠ 0 := by simpa using h4
    rw [Bool.not_true, beq_eq_false_iff_ne]
    omega
set_option maxRecDepth 100000 in
set_option maxHeartbeats 1000000 in
theorem cell_walk (gy gk : Nat) (ks : List Int) (cs : List Nat) (cl : Int) (w : World) (h : Lay w gy gk ks cs) (hcl : 0 ≤ cl) (hcl2 : cl < 6) :
    Calls Try.prog 45 #[.pointer (some ⟨gy, 0, none⟩), .int .i64 cl] w fun e w' => e = .returned (.tuple #[.int .i64 (cellRes ks cs cl).1, .bool (cellRes ks cs cl).2]) ∧ Below w.heap.size w w' := by
  have HL := Aside0.mk h
  have hw := wordsOf_in hcl hcl2
  have hlk := h.lk
  obtain ⟨M, hM⟩ : ∃ M : Nat, 28 / wordsOf cl = (M : Int) := ⟨(28 / wordsOf cl).toNat, by have : 0 ≤ 28 / wordsOf cl := Int.ediv_nonneg (by omega) (by omega); omega⟩
  have hM2 : M ≤ 14 := by
    have : 28 / wordsOf cl ≤ 14 := Int.ediv_le_of_le_mul (by omega) (by omega)
    omega
  have HCE := Aside0.mk (show class_Cells.f cl = some ((M : Int), 0) by unfold class_Cells.f; rw [if_pos ⟨hcl, hcl2⟩]; unfold wordsOf at hM; rw [hM])
  have HRES : Aside0 (∀ R, (match first (slabOf ks cs cl M) ks.length with | some (p, k) => ((p : Int) * 32 + (4 + (k : Int) * wordsOf cl), true) | none => match first (pageOf ks) ks.length with | some p => ((p : Int) * 32 + 4, true) | none => ((0 : Int), false)) = R → cellRes ks cs cl = R) := ⟨fun R hR => by unfold cellRes; rw [hM, Int.toNat_natCast]; exact hR⟩
  have HCL : Aside0 (∀ k : Nat, k < M → class_Cell.f cl k = some (4 + (k : Int) * wordsOf cl, 0)) := ⟨fun k hk => by unfold class_Cell.f; unfold wordsOf at hM ⊢; rw [if_pos ⟨⟨hcl, hcl2⟩, by omega, by omega⟩]⟩
  generalize wordsOf cl = ww at HRES HCL hw hM
  clear h hM
  generalize cellRes ks cs cl = RR at HRES ⊢
  go_enter Try.func45, Try.ntmps45
  go_wp2_with (go_at_call 19; refine (class_Cells.calls cl _ _ _ HCE.out).mono ?_; rintro e w2 ⟨rfl, hb⟩; have h0 := (HL.out.below hb).head; have HB := Aside0.mk hb; clear hb)
  have HL2 := Aside0.mk (HL.out.below HB.out)
  clear h0
  go_loopw [25] (fun v25 wr => ∃ p : Nat, v25 = .int .i64 p ∧ p ≤ ks.length ∧ Aside0 (∀ q, q < p → slabOf ks cs cl M q = none) ∧ w2 = wr) (fun v25 _ => ks.length - (intOf v25).toNat)
  case atStart => exact ⟨0, rfl, Nat.zero_le _, ⟨fun q hq => by omega⟩, rfl⟩
  case round =>
    obtain ⟨p, rfl, hp, HN, rfl⟩ := hrel
    by_cases hlt : p < ks.length
    · have h1 := HL2.out.kind p hlt
      have hcell := HL2.out.cell p (by omega)
      have h0 := HL2.out.head
      generalize hc : cs.getD p 0 = c at hcell
      generalize hkk : ks.getD p 0 = kk at h1
      have HC := Aside0.mk hc
      have HKK := Aside0.mk hkk
      clear hc hkk
      by_cases hk : kk = cl
      · subst hk
        have e1 : (kk == kk) = true := beq_self_eq_true _
        go_wp2
        go_loopw [31] (fun v31 wr => ∃ k : Nat, v31 = .int .i64 k ∧ k ≤ M ∧ Aside0 (∀ j, j < k → c.testBit j = true) ∧ w2 = wr) (fun v31 _ => M - (intOf v31).toNat)
        case atStart => exact ⟨0, rfl, Nat.zero_le _, ⟨fun q hq => by omega⟩, rfl⟩
        case round =>
          obtain ⟨k, rfl, hk2, HT, rfl⟩ := hrel
          by_cases hkl : k < M
          · have b0 : (0 : Int) ≤ (k : Int) := by omega
            have b1 : (k : Int) < 64 := by omega
            have htb := bit_test c k (by
              rw [← HC.out, List.getD_eq_getElem?_getD, List.getElem?_eq_getElem (by rw [HL2.out.lc]; omega)]
              exact HL2.out.bd _ (List.getElem_mem _))
            cases hbit : c.testBit k with
            | true =>
              rw [hbit, Bool.not_true] at htb
              have HB1 := Aside0.mk hbit
              clear hbit
              go_wp2
              go_roundw
              case rel =>
                refine ⟨k + 1, by go_num, hkl, ⟨fun j hj => ?_⟩, trivial⟩
                by_cases e : j = k
                · rw [e]; exact HB1.out
                · exact HT.out j (by omega)
              case measure => simp [intOf]; omega
            | false =>
              rw [hbit, Bool.not_false] at htb
              have hfb : freeBit c M = some k := first_hit (f := fun k => if c.testBit k = true then none else some k) hkl (by simp [hbit]) (fun q hq => if_pos (HT.out q hq))
              have HIT := Aside0.mk (HRES.out ((p : Int) * 32 + (4 + (k : Int) * ww), true) (by rw [first_hit hlt (b := (p, k)) (by unfold slabOf; rw [HC.out, HKK.out, if_pos rfl, hfb]; rfl) HN.out]))
              have HCA := Aside0.mk (HCL.out k hkl)
              have hkw : 0 ≤ (k : Int) * ww ∧ (k : Int) * ww ≤ 14 * 15 := ⟨Int.mul_nonneg (by omega) (by omega), Int.mul_le_mul (by omega) (by omega) (by omega) (by omega)⟩
              generalize (k : Int) * ww = kw at HIT HCA hkw
              clear hbit hfb
              go_wp2_with (go_at_call 23; refine (class_Cell.calls kk k _ _ _ HCA.out).mono ?_; rintro e w3 ⟨rfl, hb⟩; have HB3 := Aside0.mk hb; clear hb)
              go_ret2
              rw [HIT.out]
              exact ⟨rfl, below_step HB.out HB3.out⟩
          · have HF := Aside0.mk (show freeBit c M = none from first_none fun q hq => if_pos (HT.out q (by omega)))
            go_wp2
            go_roundw
            case rel =>
              refine ⟨p + 1, by go_num, hlt, ⟨fun q hq => ?_⟩, trivial⟩
              by_cases e : q = p
              · rw [e]; unfold slabOf; rw [HC.out, HF.out]; split <;> rfl
              · exact HN.out q (by omega)
            case measure => simp [intOf]; omega
      · have e1 : (kk == cl) = false := beq_eq_false_iff_ne.2 hk
        have HK := Aside0.mk hk
        clear hk
        go_wp2
        go_loopw [31] (fun v31 wr => ∃ k : Nat, v31 = .int .i64 k ∧ k ≤ M ∧ w2 = wr) (fun v31 _ => M - (intOf v31).toNat)
        case atStart => exact ⟨0, rfl, Nat.zero_le _, rfl⟩
        case round =>
          obtain ⟨k, rfl, hk2, rfl⟩ := hrel
          by_cases hkl : k < M
          · go_wp2
            go_roundw
            case rel => exact ⟨k + 1, by go_num, hkl, trivial⟩
            case measure => simp [intOf]; omega
          · go_wp2
            go_roundw
            case rel =>
              refine ⟨p + 1, by go_num, hlt, ⟨fun q hq => ?_⟩, trivial⟩
              by_cases e : q = p
              · rw [e]; unfold slabOf; rw [HKK.out, if_neg HK.out]
              · exact HN.out q (by omega)
            case measure => simp [intOf]; omega
    · have HN2 := Aside0.mk (show first (slabOf ks cs cl M) ks.length = none from first_none fun q hq => HN.out q (by omega))
      have h0 := HL2.out.head
      clear HN
      go_wp2
      clear h0
      go_loopw [66] (fun v66 wr => ∃ p : Nat, v66 = .int .i64 p ∧ p ≤ ks.length ∧ Aside0 (∀ q, q < p → pageOf ks q = none) ∧ w2 = wr) (fun v66 _ => ks.length - (intOf v66).toNat)
      case atStart => exact ⟨0, rfl, Nat.zero_le _, ⟨fun q hq => by omega⟩, rfl⟩
      case round =>
        obtain ⟨p2, rfl, hp2, HP, rfl⟩ := hrel
        by_cases hl2 : p2 < ks.length
        · have h1 := HL2.out.kind p2 hl2
          generalize hkk : ks.getD p2 0 = kk at h1
          have HKK := Aside0.mk hkk
          clear hkk
          by_cases hk : kk = -1
          · subst hk
            have HIT := Aside0.mk (HRES.out ((p2 : Int) * 32 + 4, true) (by rw [HN2.out, first_hit hl2 (b := p2) (by unfold pageOf; rw [HKK.out, if_pos rfl]) HP.out]))
            go_wp2
            go_ret2
            rw [HIT.out]
            exact ⟨rfl, HB.out⟩
          · have e1 : (kk == -1) = false := beq_eq_false_iff_ne.2 hk
            have HK := Aside0.mk hk
            clear hk
            go_wp2
            go_roundw
            case rel =>
              refine ⟨p2 + 1, by go_num, hl2, ⟨fun q hq => ?_⟩, trivial⟩
              by_cases e : q = p2
              · rw [e]; unfold pageOf; rw [HKK.out, if_neg HK.out]
              · exact HP.out q (by omega)
            case measure => simp [intOf]; omega
        · have HIT := Aside0.mk (HRES.out (0, false) (by rw [HN2.out, first_none (f := pageOf ks) fun q hq => HP.out q (by omega)]))
          go_wp2
          go_ret2
          rw [HIT.out]
          exact ⟨rfl, HB.out⟩
end Go.Proofs.Ytlpkbekpdhaplaa.P
