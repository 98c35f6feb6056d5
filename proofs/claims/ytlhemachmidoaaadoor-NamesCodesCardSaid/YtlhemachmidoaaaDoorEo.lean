/- joistlaw01.Owned: rows of bytes that lie apart may be written over; true. -/
import Derived.Test.YtlhemachmidoaaaDoorEf
import Derived.Deep.QuietTactic
import Derived.BigQuiet
namespace Go.Proofs.YtlhemachmidoaaaDoor.P
open Go.RowKit Go.Proofs.YtlhemachmidoaaaDoorW.PrintWords Go.Proofs.YtlhemachmidoaaaDoorW.PrintLast Go.Proofs.YtlhemachmidoaaaDoorW.PrintMore
set_option linter.unusedVariables false
set_option linter.unusedSimpArgs false

def fillv (i : Nat) : Int := (i : Int) + 1
def RowW (w : World) (v : Value) (c : Option Int) : Prop :=
  v = .slice none 0 0 ∨ ∃ (g n cap : Nat) (cur : Array Value), v = .slice (some ⟨g, 0, none⟩) n cap ∧ n ≤ cap ∧ cap ≤ maxLen ∧ w.heap[g]? = some (.cells cur 5 (0, 0)) ∧ cur.size = cap ∧ ∀ x, c = some x → ∀ k, k < cap → cur[k]? = some (.int .u8 x)
structure RowsW (w : World) (q : Nat) (vs : List Value) (i : Nat) : Prop where
  at_ : w.heap[q]? = some (.cells vs.toArray 25 (0, 0))
  row : ∀ j (hj : j < vs.length), RowW w vs[j] (if j < i then some (fillv j) else none)
def ApartW (vs : List Value) : Prop := ∀ j (hj : j < vs.length) k (hk : k < vs.length), j ≠ k → ∀ g, vs[j].ownBlock = some g → vs[k].ownBlock ≠ some g
theorem RowW.other {w w' : World} {v : Value} {c : Option Int} (h : RowW w v c) {g : Nat} (hk : ∀ b, b ≠ g → w'.heap[b]? = w.heap[b]?) (hne : v.ownBlock ≠ some g) : RowW w' v c := by
  rcases h with h | ⟨g1, n, cap, cur, rfl, h1, h2, h3, h4, h5⟩
  · exact .inl h
  · refine .inr ⟨g1, n, cap, cur, rfl, h1, h2, ?_, h4, h5⟩
    rw [hk g1 (fun e => hne (by rw [e]; rfl))]
    exact h3
theorem RowW.same {w w' : World} {v : Value} {c : Option Int} (h : RowW w v c) (hk : w'.heap = w.heap) : RowW w' v c := by
  unfold RowW at *
  rw [hk]
  exact h
theorem RowsW.same {w w' : World} {q i : Nat} {vs : List Value} (h : RowsW w q vs i) (hk : w'.heap = w.heap) : RowsW w' q vs i :=
  ⟨by rw [hk]; exact h.at_, fun j hj => (h.row j hj).same hk⟩
/-- Row i was filled, the others stand. -/
theorem RowsW.next {w w' : World} {q i : Nat} {vs : List Value} (h : RowsW w q vs i) (ha : ApartW vs) (hi : i < vs.length) {g n cap : Nat} {cur : Array Value} (hv : vs[i] = .slice (some ⟨g, 0, none⟩) n cap) (hn : n ≤ cap) (hm : cap ≤ maxLen)
    (hg : w'.heap[g]? = some (.cells cur 5 (0, 0))) (hs : cur.size = cap) (hf : ∀ k, k < cap → cur[k]? = some (.int .u8 (fillv i))) (hq : q ≠ g) (hk : ∀ b, b ≠ g → w'.heap[b]? = w.heap[b]?) : RowsW w' q vs (i + 1) := by
  refine ⟨by rw [hk q hq]; exact h.at_, fun j hj => ?_⟩
  by_cases hji : j = i
  · subst hji
    rw [if_pos (by omega)]
    refine .inr ⟨g, n, cap, cur, hv, hn, hm, hg, hs, fun x hx k hkk => ?_⟩
    obtain rfl := Option.some.inj hx
    exact hf k hkk
  · have h1 : (if j < i + 1 then some (fillv j) else none) = (if j < i then some (fillv j) else none) := by
      by_cases hlt : j < i
      · rw [if_pos hlt, if_pos (by omega)]
      · rw [if_neg hlt, if_neg (by omega)]
    rw [h1]
    exact (h.row j hj).other hk (ha i hi j hj (fun e => hji e.symm) g (by rw [hv]; rfl))
theorem RowsW.skip {w : World} {q i : Nat} {vs : List Value} (h : RowsW w q vs i) (hi : i < vs.length) (hv : vs[i] = .slice none 0 0) : RowsW w q vs (i + 1) := by
  refine ⟨h.at_, fun j hj => ?_⟩
  by_cases hji : j = i
  · subst hji
    exact .inl hv
  · have h1 : (if j < i + 1 then some (fillv j) else none) = (if j < i then some (fillv j) else none) := by
      by_cases hlt : j < i
      · rw [if_pos hlt, if_pos (by omega)]
      · rw [if_neg hlt, if_neg (by omega)]
    rw [h1]
    exact h.row j hj
theorem below_drewn {B : Nat} {a w : World} (h : Below B a w) (n : Nat) : Below B a (w.drewN n) := h.trans (pw_below_drewN (Below.refl _ _) n)
theorem underlying34 : Tryd.prog.underlying 34 = some (.slice 25) := by kernel_rfl
set_option maxRecDepth 100000 in
set_option maxHeartbeats 2000000 in
theorem joistlaw01_Owned.calls (q : Nat) (vs : List Value) (base : Nat) (w0 w : World) (hr : RowsW w q vs 0) (ha : ApartW vs) (hl : vs.length ≤ 100) (hb : Below base w0 w) (hge : ∀ j (hj : j < vs.length) g, vs[j].ownBlock = some g → base ≤ g) :
    Calls Tryd.prog 21 #[.slice (some ⟨q, 0, none⟩) vs.length vs.length] w fun e w' => e = .returned (.bool true) ∧ Below base w0 w' := by
  have HR := Aside0.mk hr
  have HB := Aside0.mk hb
  have HA := Aside0.mk ha
  have HGE := Aside0.mk hge
  clear hr hb ha hge
  go_enter Tryd.func21, Tryd.ntmps21
  go_wp2
  go_loopw [3] (fun v3 wr => ∃ i : Nat, v3 = .int .i64 i ∧ i ≤ vs.length ∧ Aside0 (RowsW wr q vs i) ∧ Aside0 (Below base w0 wr)) (fun v3 wr => match v3 with | .int _ n => vs.length - n.toNat | _ => 0)
  case atStart => exact ⟨0, rfl, Nat.zero_le _, HR, HB⟩
  case round =>
    obtain ⟨i, rfl, hi, HRi, HBi⟩ := hrel
    obtain ⟨wo, hwo⟩ : ∃ x, x = wr := ⟨wr, rfl⟩
    subst hwo
    by_cases hlt : i < vs.length
    · have b1 : decide ((i : Int) < (vs.length : Int)) = true := decide_eq_true (by omega)
      have hcell : wo.cell? ⟨q, i, none⟩ = some vs[i] := by
        have := blk_cell HRi.out.at_ i
        simpa [hlt] using this
      have hfr := blk_frozen HRi.out.at_ i
      have b2 : decide (i < vs.length) = true := decide_eq_true hlt
      have hw64 : IntKind.i64.wrap ((i : Int) + 1) = ((i + 1 : Nat) : Int) := by rw [i64_w]; exact (wrap_fit (by omega) (by omega)).trans (by omega)
      have hw65 : wrap64 ((i : Int) + 1) = ((i + 1 : Nat) : Int) := (wrap_fit (by omega) (by omega)).trans (by omega)
      rcases HRi.out.row i hlt with hv | ⟨g, n, cap, cur, hv, hn, hm, hg, hs, _⟩
      · rw [hv] at hcell
        have HV := Aside0.mk hv
        clear hv
        go_wp2
        go_quiet (fail)
        go_wp2
        go_loopw [5] (fun v5 w' => v5 = .int .i64 0 ∧ Aside0 (w'.heap = wo.heap) ∧ Aside0 (Below base w0 w')) (fun v5 w' => 0)
        case atStart => exact ⟨rfl, ⟨rfl⟩, ⟨below_drewn HBi.out _⟩⟩
        case round =>
          obtain ⟨rfl, HE, HB2⟩ := hrel
          go_wp2
          go_roundw
          case rel =>
            refine ⟨i + 1, congrArg _ (by omega), hlt, ⟨?_⟩, HB2⟩
            exact (HRi.out.skip hlt HV.out).same HE.out
          case measure =>
            show vs.length - ((i : Int) + 1).toNat < vs.length - (i : Int).toNat
            omega
      · rw [hv] at hcell
        have HV := Aside0.mk hv
        have HG := Aside0.mk hg
        have HSZ := Aside0.mk hs
        have HM := Aside0.mk hm
        have hge := HGE.out i hlt g (by rw [hv]; rfl)
        clear hv hg hs hm
        go_wp2
        go_quiet (fail)
        go_wp2
        go_loopw [5] (fun v5 w' => ∃ (k : Nat) (cur' : Array Value), v5 = .int .i64 k ∧ k ≤ cap ∧ Aside0 (w'.heap[g]? = some (.cells cur' 5 (0, 0))) ∧ Aside0 (cur'.size = cap) ∧ Aside0 (∀ j, j < k → cur'[j]? = some (.int .u8 (fillv i))) ∧ Aside0 (∀ b, b ≠ g → w'.heap[b]? = wo.heap[b]?) ∧ Aside0 (Below base w0 w')) (fun v5 w' => match v5 with | .int _ m => cap - m.toNat | _ => 0)
        case atStart => exact ⟨0, cur, rfl, Nat.zero_le _, ⟨HG.out⟩, HSZ, ⟨fun j hj => by omega⟩, ⟨fun _ _ => rfl⟩, ⟨below_drewn HBi.out _⟩⟩
        case round =>
          obtain ⟨k, cur', rfl, hk, HG2, HS2, HF2, HO2, HB2⟩ := hrel
          by_cases hkc : k < cap
          · have c1 : decide ((k : Int) < (cap : Int)) = true := decide_eq_true (by omega)
            have c2 : decide (k < cap) = true := decide_eq_true hkc
            have hcell2 : wr.cell? ⟨g, k, none⟩ = cur'[k]? := by
              have := blk_cell HG2.out k
              simpa using this
            rw [Array.getElem?_eq_getElem (by rw [HS2.out]; exact hkc)] at hcell2
            have hfr2 := blk_frozen HG2.out k
            have hkw : wrap64 ((k : Int) + 1) = ((k + 1 : Nat) : Int) := (wrap_fit (by have := HM.out; unfold maxLen at this; omega) (by have := HM.out; unfold maxLen at this; omega)).trans (by omega)
            go_wp2
            go_roundw
            case rel =>
              refine ⟨k + 1, cur'.setIfInBounds k (.int .u8 (fillv i)), congrArg _ hkw, hkc, ⟨?_⟩, ⟨?_⟩, ⟨?_⟩, ⟨?_⟩, ⟨?_⟩⟩
              · exact blk_set HG2.out k _
              · rw [Array.size_setIfInBounds]; exact HS2.out
              · intro j hj
                rw [Array.getElem?_setIfInBounds]
                by_cases hjk : k = j
                · rw [if_pos hjk, if_pos (by rw [HS2.out]; omega)]
                · rw [if_neg hjk]
                  exact HF2.out j (by omega)
              · intro b hb
                exact (Below.heap_setCell _ _ _ _ hb).trans (HO2.out b hb)
              · exact HB2.out.setCell hge _
            case measure =>
              show cap - (wrap64 ((k : Int) + 1)).toNat < cap - (k : Int).toNat
              rw [hkw]
              omega
          · have c1 : decide ((k : Int) < (cap : Int)) = false := decide_eq_false (by omega)
            have c2 : decide (k < cap) = false := decide_eq_false hkc
            go_wp2
            go_roundw
            case rel =>
              refine ⟨i + 1, congrArg _ (by omega), hlt, ⟨?_⟩, HB2⟩
              refine HRi.out.next HA.out hlt HV.out hn HM.out HG2.out HS2.out (fun j hj => HF2.out j (by omega)) ?_ HO2.out
              intro e
              have h1 := HRi.out.at_
              have h2 := HG.out
              rw [e, h2] at h1
              simp at h1
            case measure =>
              show vs.length - ((i : Int) + 1).toNat < vs.length - (i : Int).toNat
              omega
    · have hie : i = vs.length := by omega
      have b1 : decide ((i : Int) < (vs.length : Int)) = false := decide_eq_false (by omega)
      have b2 : decide (i < vs.length) = false := decide_eq_false hlt
      have HRF := Aside0.mk (show RowsW wo q vs vs.length by rw [← hie]; exact HRi.out)
      clear HRi
      go_wp2
      go_loopw [6] (fun v6 w' => ∃ i : Nat, v6 = .int .i64 i ∧ i ≤ vs.length ∧ Aside0 (w'.heap = wo.heap) ∧ Aside0 (Below base w0 w')) (fun v6 w' => match v6 with | .int _ n => vs.length - n.toNat | _ => 0)
      case atStart => exact ⟨0, rfl, Nat.zero_le _, ⟨rfl⟩, HBi⟩
      case round =>
        obtain ⟨i2, rfl, hi2, HE2, HB2⟩ := hrel
        have HR2 := Aside0.mk (HRF.out.same HE2.out)
        obtain ⟨wp, hwp⟩ : ∃ x, x = wr := ⟨wr, rfl⟩
        subst hwp
        by_cases hlt2 : i2 < vs.length
        · have d1 : decide ((i2 : Int) < (vs.length : Int)) = true := decide_eq_true (by omega)
          have d2 : decide (i2 < vs.length) = true := decide_eq_true hlt2
          have hcell : wp.cell? ⟨q, i2, none⟩ = some vs[i2] := by
            have := blk_cell HR2.out.at_ i2
            simpa [hlt2] using this
          have hfr := blk_frozen HR2.out.at_ i2
          rcases HR2.out.row i2 hlt2 with hv | ⟨g, n, cap, cur, hv, hn, hm, hg, hs, hf⟩
          · rw [hv] at hcell
            clear hv
            go_wp2
            go_quiet (fail)
            go_wp2
            go_loopw [8] (fun v8 w' => v8 = .int .i64 0 ∧ Aside0 (w'.heap = wp.heap) ∧ Aside0 (Below base w0 w')) (fun v8 w' => 0)
            case atStart => exact ⟨rfl, ⟨rfl⟩, ⟨below_drewn HB2.out _⟩⟩
            case round =>
              obtain ⟨rfl, HE3, HB3⟩ := hrel
              go_wp2
              go_roundw
              case rel => exact ⟨i2 + 1, congrArg _ (by omega), hlt2, ⟨HE3.out.trans HE2.out⟩, HB3⟩
              case measure =>
                show vs.length - ((i2 : Int) + 1).toNat < vs.length - (i2 : Int).toNat
                omega
          · rw [hv] at hcell
            have HG := Aside0.mk hg
            have HSZ := Aside0.mk hs
            have HM := Aside0.mk hm
            have HF := Aside0.mk (fun k hk => hf _ (if_pos hlt2) k hk)
            clear hv hg hs hm hf
            go_wp2
            go_quiet (fail)
            go_wp2
            go_loopw [8] (fun v8 w' => ∃ k : Nat, v8 = .int .i64 k ∧ k ≤ cap ∧ Aside0 (w'.heap = wp.heap) ∧ Aside0 (Below base w0 w')) (fun v8 w' => match v8 with | .int _ m => cap - m.toNat | _ => 0)
            case atStart => exact ⟨0, rfl, Nat.zero_le _, ⟨rfl⟩, ⟨below_drewn HB2.out _⟩⟩
            case round =>
              obtain ⟨k, rfl, hk, HE3, HB3⟩ := hrel
              by_cases hkc : k < cap
              · have c1 : decide ((k : Int) < (cap : Int)) = true := decide_eq_true (by omega)
                have c2 : decide (k < cap) = true := decide_eq_true hkc
                have hg3 : wr.heap[g]? = some (.cells cur 5 (0, 0)) := by rw [HE3.out]; exact HG.out
                have hcell2 : wr.cell? ⟨g, k, none⟩ = some (.int .u8 ((i2 : Int) + 1)) := by
                  have := blk_cell hg3 k
                  rw [HF.out k hkc] at this
                  exact this
                have hfr2 := blk_frozen hg3 k
                have hkw : wrap64 ((k : Int) + 1) = ((k + 1 : Nat) : Int) := (wrap_fit (by have := HM.out; unfold maxLen at this; omega) (by have := HM.out; unfold maxLen at this; omega)).trans (by omega)
                clear hg3
                go_wp2
                go_roundw
                case rel => exact ⟨k + 1, congrArg _ hkw, hkc, HE3, HB3⟩
                case measure =>
                  show cap - (wrap64 ((k : Int) + 1)).toNat < cap - (k : Int).toNat
                  rw [hkw]
                  omega
              · have c1 : decide ((k : Int) < (cap : Int)) = false := decide_eq_false (by omega)
                have c2 : decide (k < cap) = false := decide_eq_false hkc
                go_wp2
                go_roundw
                case rel => exact ⟨i2 + 1, congrArg _ (by omega), hlt2, ⟨HE3.out.trans HE2.out⟩, HB3⟩
                case measure =>
                  show vs.length - ((i2 : Int) + 1).toNat < vs.length - (i2 : Int).toNat
                  omega
        · have d1 : decide ((i2 : Int) < (vs.length : Int)) = false := decide_eq_false (by omega)
          have d2 : decide (i2 < vs.length) = false := decide_eq_false hlt2
          go_wp2
          go_ret
          exact ⟨rfl, HB2.out⟩
end Go.Proofs.YtlhemachmidoaaaDoor.P
