/- NamesTells over the printed functions. -/
import Derived.Test.YtlhemachmidoaaaDoorU1
import Derived.Test.YtlhemachmidoaaaDoorR2
import Derived.Test.YtlhemachmidoaaaDoorP10
import Derived.OpenShut
namespace Go.Proofs.YtlhemachmidoaaaDoor.Pure
open Go.RowKit Go.Proofs.YtlhemachmidoaaaDoor.P Go.Proofs.YtlhemachmidoaaaDoorW.PrintWords Go.Proofs.YtlhemachmidoaaaDoorW.PrintLast
set_option linter.unusedVariables false
set_option linter.unusedSimpArgs false

theorem ext_list (s : ByteArray) (a b : Nat) (hb : b ≤ s.size) : (s.extract a b).data.toList = (s.data.toList.take b).drop a := by
  rw [Lib.extract_data, List.drop_take]
theorem bytes_eq {a b : ByteArray} (h : a.data.toList = b.data.toList) : a = b := ByteArray.ext (Array.toList_inj.1 h)
theorem decode_l (s : ByteArray) : Utf8.decode s 0 = Lib.decodeL s.data.toList := by
  rw [← Lib.decodeL_drop, List.drop_zero]
theorem get_l (s : ByteArray) (h : 0 < s.size) : s.get! 0 = s.data.toList.getD 0 0 := by
  show s.data[0]! = _
  rw [List.getD_eq_getElem?_getD, Array.getElem?_toList]
  have h2 : 0 < s.data.size := h
  rw [getElem!_pos s.data 0 h2, Array.getElem?_eq_getElem h2]
  rfl
theorem refold : ∀ (n : Nat) (x y : ByteArray) (k : Nat), x.size ≤ n → n + 40 ≤ k → y.size + 4 * x.size ≤ 1000000 →
    ∃ r, joistref06_Fold.l0 k x y = some r ∧ r.data.toList = y.data.toList ++ Lib.mapD fold_rune x.data.toList := by
  intro n
  induction n with
  | zero =>
    intro x y k hx hk hy
    obtain ⟨k, rfl⟩ : ∃ m, k = m + 1 := ⟨k - 1, by omega⟩
    simp only [joistref06_Fold.l0]
    rw [if_neg (by omega)]
    refine ⟨_, rfl, ?_⟩
    have : x.data.toList = [] := List.eq_nil_of_length_eq_zero (by rw [← Lib.size_eq]; omega)
    rw [this]
    simp [Lib.mapD_nil]
  | succ n ih =>
    intro x y k hx hk hy
    obtain ⟨k, rfl⟩ : ∃ m, k = m + 1 := ⟨k - 1, by omega⟩
    simp only [joistref06_Fold.l0]
    by_cases h0 : 0 < x.size
    · have hne : x.data.toList ≠ [] := by
        intro h
        have := congrArg List.length h
        rw [← Lib.size_eq, List.length_nil] at this
        omega
      have hlen : x.data.toList.length = x.size := (Lib.size_eq x).symm
      have hle := Lib.decodeL_le _ hne
      have hw := Lib.decodeL_width x.data.toList
      have hasc : (x.get! 0).toNat < 128 → Lib.decodeL x.data.toList = ((x.get! 0).toNat, 1) := by
        intro h
        rw [Lib.decodeL_N, ← get_l x h0]
        unfold Lib.decodeN
        rw [if_pos h]
      have hg := get_l x h0
      have hbt : bt x 0 = ((x.get! 0).toNat : Int) := bt_get x 0 h0
      have hbad := decode_bad x
      have hN := Lib.decodeL_N x.data.toList
      have hshape := Lib.decodeN_shape x.data.toList.length (x.data.toList.getD 0 0).toNat (x.data.toList.getD 1 0).toNat (x.data.toList.getD 2 0).toNat (x.data.toList.getD 3 0).toNat
      rw [← hN, ← hg] at hshape
      have hed := Lib.encode_decode x.data.toList hne
      rw [if_pos (by omega), runeOf_is x h0 (by omega) k (by omega), hbt]
      rw [decode_l] at hbad ⊢
      rw [mapF_step _ hne]
      generalize (x.get! 0).toNat = b at hasc hbad hshape ⊢
      generalize Lib.decodeL x.data.toList = cw at hle hw hasc hbad hshape hed ⊢
      obtain ⟨c, w⟩ := cw
      simp only [Option.bind_some] at hle hw hasc hbad hshape hed ⊢
      have next : ∀ e : ByteArray, e.data.toList = Lib.encodeRune (fold_rune c) → e.size ≤ 4 * w →
          ∃ r, joistref06_Fold.l0 k (x.extract w x.size) (y ++ e) = some r ∧ r.data.toList = y.data.toList ++ (Lib.encodeRune (fold_rune c) ++ Lib.mapD fold_rune (x.data.toList.drop w)) := by
        intro e he hes
        have hxs : (x.extract w x.size).size = x.size - w := by rw [ByteArray.size_extract]; omega
        obtain ⟨r, hr, hr2⟩ := ih (x.extract w x.size) (y ++ e) k (by omega) (by omega) (by rw [hxs, ByteArray.size_append]; omega)
        refine ⟨r, hr, ?_⟩
        rw [hr2, ByteArray.data_append, Array.toList_append, he, ext_list _ _ _ (Nat.le_refl _), List.take_of_length_le (by omega), List.append_assoc]
      by_cases hc : w = 1 ∧ ¬ b < 128
      · have hc1 := hbad hc.1 hc.2
        rw [if_pos hc]
        simp only [if_true]
        rw [if_pos (by omega), if_pos (by omega)]
        obtain ⟨rfl, _⟩ := hc
        subst hc1
        exact next ⟨#[239, 191, 189]⟩ (by decide +kernel) (by decide +kernel)
      · rw [if_neg hc]
        simp only
        rw [if_neg (by omega), if_pos (by omega)]
        have copy : ¬ (97 ≤ b ∧ b ≤ 122) → ∃ r, (if (0 : Int) ≤ w then (if (w : Int) ≤ x.size then (if y.size + (x.extract 0 ((w : Int)).toNat).size ≤ 9223372036854775807 then joistref06_Fold.l0 k (x.extract ((w : Int)).toNat x.size) (y ++ x.extract 0 ((w : Int)).toNat) else none) else none) else none) = some r ∧ r.data.toList = y.data.toList ++ (Lib.encodeRune (fold_rune c) ++ Lib.mapD fold_rune (x.data.toList.drop w)) := by
          intro hb
          have hes : (x.extract 0 w).size = w := by rw [ByteArray.size_extract]; omega
          rw [if_pos (by omega), if_pos (by omega), Int.toNat_natCast, if_pos (by omega)]
          refine next (x.extract 0 w) ?_ (by omega)
          have hfc : fold_rune (c : Int) = c := by
            unfold fold_rune
            rw [if_neg]
            intro hh
            rcases hshape with ⟨h1, e⟩ | ⟨h1, h2, h3, h4, e⟩ | ⟨h1, h2, h3, h4, h5, h6, e⟩ | ⟨h1, h2, h3, h4, h5, h6, h7, e⟩ | e
            all_goals (have e1 := (Prod.mk.inj e).1; omega)
          have hv : ¬ (c = 65533 ∧ w = 1) := by
            intro hh
            by_cases h128 : b < 128
            · have e1 := (Prod.mk.inj (hasc h128)).1
              omega
            · exact hc ⟨hh.2, h128⟩
          rw [hfc, hed hv, ext_list _ _ _ (by omega), List.drop_zero]
        by_cases hb1 : (b : Int) ≥ 97
        · rw [if_pos hb1]
          by_cases hb2 : (b : Int) ≤ 122
          · have hcb : c = b ∧ w = 1 := by
              have e := hasc (by omega)
              exact ⟨(Prod.mk.inj e).1, (Prod.mk.inj e).2⟩
            obtain ⟨rfl, rfl⟩ := hcb
            rw [if_pos hb2]
            have hone : strOfNums [((c : Int) - 32) % 256] = ⟨#[UInt8.ofNat (c - 32)]⟩ := by
              unfold strOfNums
              simp
              congr 2
              omega
            rw [hone]
            have hfc : fold_rune (c : Int) = (c : Int) - 32 := by
              unfold fold_rune
              rw [if_pos (by omega)]
            rw [if_pos (by show y.size + 1 ≤ 9223372036854775807; omega), if_pos (by omega), if_pos (by omega)]
            refine next ⟨#[UInt8.ofNat (c - 32)]⟩ ?_ (by show 1 ≤ 4 * 1; omega)
            rw [hfc]
            unfold Lib.encodeRune
            rw [Lib.encodeRuneZ_one (by omega) (by omega)]
            show [UInt8.ofNat (c - 32)] = [((c : Int) - 32).toNat.toUInt8]
            congr 1
            rw [show ((c : Int) - 32).toNat = c - 32 by omega]
          · rw [if_neg hb2]
            exact copy (by omega)
        · rw [if_neg hb1]
          exact copy (by omega)
    · rw [if_neg (by omega)]
      refine ⟨_, rfl, ?_⟩
      have : x.data.toList = [] := List.eq_nil_of_length_eq_zero (by rw [← Lib.size_eq]; omega)
      rw [this]
      simp [Lib.mapD_nil]
theorem NamesTells : joistlaw06_NamesTells.Pure := by
  intro s hs
  refine ⟨s.size + 100, ?_⟩
  unfold joistlaw06_NamesTells.f
  rw [small_true, names_is s _ (by omega)]
  unfold names_Right.f
  simp only [Option.bind_some, if_true, beq_self_eq_true]
  by_cases h : (s.size : Int) > 1024
  · rw [if_pos h]
  · rw [if_neg h]
    unfold names_Fold.f
    rw [if_pos (by omega)]
    obtain ⟨r, hr, hr2⟩ := refold s.size s ⟨#[]⟩ (s.size + 100) (Nat.le_refl _) (by omega) (by show 0 + 4 * s.size ≤ 1000000; omega)
    unfold joistref06_Fold.f
    rw [hr]
    simp only [Option.bind_some]
    have : r = fold_of s := bytes_eq (by rw [hr2, fold_bytes]; rfl)
    rw [this]
    simp
end Go.Proofs.YtlhemachmidoaaaDoor.Pure
