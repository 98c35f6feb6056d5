/- joistref01.Get at place 2 of 32 bytes. -/
import Derived.Test.YtlhemachmidoaaaDoorEf
namespace Go.Proofs.YtlhemachmidoaaaDoor.P
open Go.RowKit Go.Proofs.YtlhemachmidoaaaDoorW.PrintWords Go.Proofs.YtlhemachmidoaaaDoorW.PrintLast Go.Proofs.YtlhemachmidoaaaDoorW.PrintMore
set_option linter.unusedVariables false
set_option linter.unusedSimpArgs false

def refw (l : List Int) : Nat → Int
  | 0 => 0
  | d + 1 => refw l d * 256 + rd l (16 + 7 - (d : Int))
def joistref01_Get.f (l0 : List Int) (a1 : Int) : Option (Int × Bool) := if a1 = 2 ∧ l0.length = 32 ∧ (∀ x ∈ l0, 0 ≤ x ∧ x < 256) then some (if rd l0 23 ≥ 64 then (0, false) else (refw l0 8, true)) else none
set_option maxRecDepth 100000 in
theorem joistref01_Get.calls (A0 : Option Addr) (c0 : Nat) (l0 : List Int) (a1 : Int) (r1 : Int) (r2 : Bool) (w : World) (hr0 : Kd.C (Kd.int .u8) w A0 l0.length l0) (hc0 : l0.length ≤ c0) (h : joistref01_Get.f l0 a1 = some (r1, r2)) :
    Calls Tryd.prog 44 #[.slice A0 l0.length c0, .int .i64 a1] w fun e w' => e = .returned (.tuple #[.int .i64 r1, .bool r2]) ∧ Below w.heap.size w w' := by
  unfold joistref01_Get.f at h
  by_cases hh : a1 = 2 ∧ l0.length = 32 ∧ (∀ x ∈ l0, 0 ≤ x ∧ x < 256)
  · rw [if_pos hh] at h
    obtain ⟨rfl, h32, hby⟩ := hh
    obtain ⟨ad, rfl, hc⟩ := (Kd.reads_of_C (enc := Value.int .u8) (d := (0 : Int)) (h1 := fun _ => rfl) hr0).2.2 (by omega)
    rw [h32] at hc0 hc ⊢
    have hcell : ∀ j : Nat, j < 8 → w.cell? ⟨ad.block, ad.off + 16 + j, none⟩ = some (.int .u8 (rd l0 (16 + (j : Int)))) := by
      intro j hj
      have h1 := hc (16 + j) (by omega)
      unfold Addr.add at h1
      rw [if_neg (by omega), show ad.off + (16 + j) = ad.off + 16 + j by omega] at h1
      rw [h1]
      unfold rd
      rw [show (16 + (j : Int)).toNat = 16 + j by omega]
    have hx : w.cell? ⟨ad.block, ad.off + 16 + 7, none⟩ = some (.int .u8 (rd l0 23)) := hcell 7 (by omega)
    have HCE := Aside0.mk hcell
    have HBY := Aside0.mk (show ∀ j : Nat, j < 32 → 0 ≤ rd l0 (j : Int) ∧ rd l0 (j : Int) < 256 from fun j hj => by
      refine hby _ ?_
      unfold rd
      rw [Int.toNat_natCast, List.getD_eq_getElem?_getD, List.getElem?_eq_getElem (by omega)]
      exact List.getElem_mem (by omega))
    clear hc hcell
    by_cases h64 : rd l0 23 ≥ 64
    · rw [if_pos h64] at h
      obtain ⟨rfl, rfl⟩ := Prod.mk.inj (Option.some.inj h)
      have d1 : decide (rd l0 23 ≥ 64) = true := decide_eq_true h64
      have d2 : decide (64 ≤ rd l0 23) = true := decide_eq_true h64
      clear h
      go_enter Tryd.func44, Tryd.ntmps44
      go_wp2
      go_ret2
      exact ⟨rfl, Below.refl _ _⟩
    · rw [if_neg h64] at h
      obtain ⟨rfl, rfl⟩ := Prod.mk.inj (Option.some.inj h)
      have HBOUND : Aside0 (∀ d : Nat, d ≤ 8 → 0 ≤ refw l0 d ∧ refw l0 d ≤ 4611686018427387903) := ⟨by
        have step : ∀ d : Nat, d ≤ 7 → 0 ≤ refw l0 (d + 1) ∧ refw l0 (d + 1) < 64 * 256 ^ d := by
          intro d
          induction d with
          | zero =>
            intro _
            have h1 : 0 ≤ rd l0 23 ∧ rd l0 23 < 256 := HBY.out 23 (by omega)
            have e : refw l0 1 = rd l0 23 := by show 0 * 256 + rd l0 (16 + 7 - (0 : Int)) = _; simp
            show 0 ≤ refw l0 1 ∧ refw l0 1 < 64 * 256 ^ 0
            rw [e, Int.pow_zero]
            omega
          | succ d ih =>
            intro hd
            obtain ⟨i1, i2⟩ := ih (by omega)
            have h1 := HBY.out (23 - (d + 1)) (by omega)
            rw [show ((23 - (d + 1) : Nat) : Int) = 16 + 7 - ((d + 1 : Nat) : Int) by omega] at h1
            have e : refw l0 (d + 1 + 1) = refw l0 (d + 1) * 256 + rd l0 (16 + 7 - ((d + 1 : Nat) : Int)) := rfl
            rw [e, Int.pow_succ]
            omega
        intro d hd
        match d, hd with
        | 0, _ => exact ⟨Int.le_refl _, by show (0 : Int) ≤ _; omega⟩
        | d + 1, hd =>
          obtain ⟨i1, i2⟩ := step d (by omega)
          have hp : (256 : Int) ^ d ≤ 256 ^ 7 := by
            have hn := Nat.pow_le_pow_right (n := 256) (by decide) (show d ≤ 7 by omega)
            exact_mod_cast hn
          have hq : (256 : Int) ^ 7 = 72057594037927936 := by decide
          omega⟩
      have d1 : decide (rd l0 23 ≥ 64) = false := decide_eq_false h64
      have d2 : decide (64 ≤ rd l0 23) = false := decide_eq_false h64
      clear h
      go_enter Tryd.func44, Tryd.ntmps44
      go_wp2
      go_loopw [7, 8] (fun v7 v8 w' => ∃ d : Nat, v7 = .int .i64 (refw l0 d) ∧ v8 = .int .i64 (7 - (d : Int)) ∧ d ≤ 8 ∧ w' = w) (fun v7 v8 w' => match v8 with | .int _ m => (m + 1).toNat | _ => 0)
      case atStart => exact ⟨0, rfl, rfl, by omega, rfl⟩
      case round =>
        obtain ⟨d, rfl, rfl, hd, rfl⟩ := hrel
        have HBD := HBOUND.out d hd
        by_cases h8 : d < 8
        · have HBD2 := HBOUND.out (d + 1) h8
          have c1 : decide ((7 - (d : Int)) ≥ 0) = true := decide_eq_true (by omega)
          have hcd := HCE.out (7 - d) (by omega)
          rw [show (16 + ((7 - d : Nat) : Int)) = 16 + 7 - (d : Int) by omega] at hcd
          have hbb := HBY.out (23 - d) (by omega)
          rw [show ((23 - d : Nat) : Int) = 16 + 7 - (d : Int) by omega] at hbb
          have hst : refw l0 (d + 1) = refw l0 d * 256 + rd l0 (16 + 7 - (d : Int)) := rfl
          rw [hst] at HBD2
          have hi7 : ad.off + 16 + (7 - d) = ad.off + 16 + (7 - (d : Int)).toNat := by omega
          rw [hi7] at hcd
          go_wp2
          go_roundw
          case rel =>
            refine ⟨d + 1, congrArg _ ?_, congrArg _ (by omega), h8, trivial⟩
            rw [hst, show (23 : Int) - (d : Int) = 16 + 7 - (d : Int) by omega, wrap_fit (n := rd l0 (16 + 7 - (d : Int))) (by omega) (by omega), wrap_fit (by omega) (by omega)]
          case measure =>
            show ((7 - (d : Int) - 1) + 1).toNat < ((7 - (d : Int)) + 1).toNat
            omega
        · obtain rfl : d = 8 := by omega
          go_wp2
          go_ret2
          exact ⟨rfl, Below.refl _ _⟩
  · rw [if_neg hh] at h
    cases h
end Go.Proofs.YtlhemachmidoaaaDoor.P
