/- What pages.Kinds, pages.Place and pages.Mates return. -/
import Derived.Test.YtlpkbekpdhaplaaEc
import Derived.Test.YtlpkbekpdhaplaaP3
namespace Go.Proofs.Ytlpkbekpdhaplaa.P
open Go.RowKit Go.Shelf Go.Proofs.YtlpkbekpdhaplaaW.PrintWords Go.Proofs.YtlpkbekpdhaplaaW.PrintLast Go.Proofs.YtlpkbekpdhaplaaW.PrintMore
attribute [local go_sem] Oper.semAt_some
set_option linter.unusedVariables false
set_option linter.unusedSimpArgs false

/-- Objects whose places an int holds; a slice of them. -/
def okL (l : List S44) : Bool := decide (l.length ≤ 8796093022208) && l.all fun o => decide (-9223372036854775808 ≤ o.f0) && decide (o.f0 ≤ 9223372036854775807)
theorem okL_obj : ∀ {l : List S44}, (∀ o ∈ l, -9223372036854775808 ≤ o.f0 ∧ o.f0 ≤ 9223372036854775807) → ∃ xs : List ObjI, xs.map (·.1) = l
  | [], _ => ⟨[], rfl⟩
  | o :: l, h => by
    obtain ⟨xs, hx⟩ := okL_obj (l := l) (fun x hx => h x (List.mem_cons_of_mem _ hx))
    exact ⟨⟨o, h o List.mem_cons_self⟩ :: xs, by rw [List.map_cons, hx]⟩
theorem okL_is {l : List S44} (h : okL l = true) : l.length ≤ 8796093022208 ∧ ∃ xs : List ObjI, xs.map (·.1) = l := by
  unfold okL at h
  rw [Bool.and_eq_true, List.all_eq_true] at h
  exact ⟨of_decide_eq_true h.1, okL_obj fun o ho => by have := h.2 o ho; simp only [Bool.and_eq_true, decide_eq_true_eq] at this; exact this⟩
theorem laid_all (n : Int) (A : Option Addr) (c : Nat) (l : List S44) (w : World) (hl : okL l = true) (hC : Kd.C k44 w A l.length l) :
    Calls Try.prog 44 #[.int .i64 n, .slice A l.length c] w fun e w' =>
      (laid n l = none ∧ e = .returned (.tuple #[.pointer none, .bool false]) ∧ Below w.heap.size w w') ∨
      ∃ (gy gk : Nat) (st : List Int × List Nat), laid n l = some st ∧ e = .returned (.tuple #[.pointer (some ⟨gy, 0, none⟩), .bool true]) ∧ Lay w' gy gk st.1 st.2 ∧ st.1.length = n.toNat ∧ w.heap.size ≤ gy ∧ w.heap.size ≤ gk ∧ Below w.heap.size w w' := by
  obtain ⟨_, xs, rfl⟩ := okL_is hl
  rw [List.length_map] at hC ⊢
  by_cases hn : 0 ≤ n ∧ n ≤ 64
  · obtain ⟨N, rfl⟩ : ∃ N : Nat, n = (N : Int) := ⟨n.toNat, by omega⟩
    rw [Int.toNat_natCast]
    exact laid_walk N A c xs w (by omega) hC
  · refine (laid_not n A xs.length c w (by omega)).mono fun e w' ⟨h1, h2⟩ => .inl ⟨?_, h1, h2⟩
    unfold laid
    rw [if_neg hn]
theorem Lay.row {W : World} {base gy gk : Nat} {ks : List Int} {cs : List Nat} (h : Lay W gy gk ks cs) (hb : base ≤ gk) : Kd.R (Kd.int .i64) 3 W base (fun _ => True) (.slice (some ⟨gk, 0, none⟩) ks.length ks.length) ks := by
  refine Kd.R_of_own ⟨by rw [encs_length, Nat.mul_one], .inr ⟨gk, ks.length, _, rfl, hb, h.k, Nat.le_refl _, by have := h.lk; unfold maxLen; omega, by rw [List.size_toArray, encs_length, Nat.mul_one], ?_⟩⟩ (fun _ _ => trivial)
  rw [List.take_of_length_le (by show (encs (Value.int .i64) ks).length ≤ _; rw [encs_length]; omega)]
/-! ### pages.Kinds: function 33 -/
def pages_Kinds.f (n : Int) (l : List S44) : Option (List Int × Bool) :=
  if okL l = true then some (match laid n l with | some st => (st.1, true) | none => ([], false)) else none
set_option maxRecDepth 100000 in
theorem pages_Kinds.calls (a0 : Int) (A1 : Option Addr) (c1 : Nat) (l1 : List S44) (r1 : List Int) (r2 : Bool) (w : World) (hr1 : Kd.C k44 w A1 l1.length l1) (hc1 : l1.length ≤ c1) (h : pages_Kinds.f a0 l1 = some (r1, r2)) :
    Calls Try.prog 33 #[.int .i64 a0, .slice A1 l1.length c1] w fun e w' => ∃ v0_ : Value, e = .returned (.tuple #[v0_, .bool r2]) ∧ Kd.R (Kd.int .i64) 3 w' w.heap.size (fun _ => True) v0_ r1 ∧ Below w.heap.size w w' := by
  unfold pages_Kinds.f at h
  by_cases hl : okL l1 = true
  · rw [if_pos hl] at h
    have hcal := laid_all a0 A1 c1 l1 w hl hr1
    cases hla : laid a0 l1 with
    | none =>
      rw [hla] at h
      obtain ⟨rfl, rfl⟩ := Prod.mk.inj (Option.some.inj h)
      have HCAL := Aside0.mk (hcal.mono (R' := fun e w' => e = .returned (.tuple #[.pointer none, .bool false]) ∧ Below w.heap.size w w') fun e w' hx => by
        rcases hx with ⟨_, h1, h2⟩ | ⟨_, _, _, h1, _⟩
        · exact ⟨h1, h2⟩
        · rw [hla] at h1; cases h1)
      clear hcal hla hr1 hc1 h hl
      go_enter Try.func33, Try.ntmps33
      go_wp2_with (go_at_call 44; refine HCAL.out.mono ?_; rintro e w2 ⟨rfl, hb⟩)
      go_ret2
      exact ⟨_, rfl, Kd.R_nil _ _ _ _ _, hb⟩
    | some st =>
      rw [hla] at h
      obtain ⟨rfl, rfl⟩ := Prod.mk.inj (Option.some.inj h)
      have HCAL := Aside0.mk (hcal.mono (R' := fun e w' => ∃ gy gk, e = .returned (.tuple #[.pointer (some ⟨gy, 0, none⟩), .bool true]) ∧ Lay w' gy gk st.1 st.2 ∧ w.heap.size ≤ gk ∧ Below w.heap.size w w') fun e w' hx => by
        rcases hx with ⟨h1, _⟩ | ⟨gy, gk, st', h1, h2, h3, h4, h5, h6, h7⟩
        · rw [hla] at h1; cases h1
        · rw [hla] at h1
          obtain rfl := Option.some.inj h1
          exact ⟨gy, gk, h2, h3, h6, h7⟩)
      clear hcal hla hr1 hc1 h hl
      go_enter Try.func33, Try.ntmps33
      go_wp2_with (go_at_call 44; refine HCAL.out.mono ?_; rintro e w2 ⟨gy, gk, rfl, hL, hk, hb⟩; have h0 := hL.head; have HL := Aside0.mk hL; have HB := Aside0.mk hb; have HK := Aside0.mk hk; clear hL hb hk)
      go_ret2
      exact ⟨_, rfl, HL.out.row HK.out, HB.out⟩
  · rw [if_neg hl] at h; cases h
/-! ### pages.Place: function 34 -/
def pages_Place.f (k : Nat) (n : Int) (l : List S44) (size : Int) : Option (Int × Bool) :=
  if okL l = true then
    (match laid n l with
     | none => some (0, false)
     | some st => if 1 ≤ size ∧ size ≤ 120 then some (cellRes st.1 st.2 (class_of size))
       else (class_Pages.f size).bind fun t => if t.2 = 0 then (pages_Best.f k st.1 t.1).bind fun b => some (wrap64 (b.1 * 32), b.2) else some (0, false))
  else none
theorem pages_Place.mono (a0 : Int) (l1 : List S44) (a2 : Int) (k : Nat) : LeO (pages_Place.f k a0 l1 a2) (pages_Place.f (k + 1) a0 l1 a2) := by
  intro r h
  unfold pages_Place.f at h ⊢
  split at h
  · rename_i hl
    rw [if_pos hl]
    cases hla : laid a0 l1 with
    | none => rw [hla] at h; exact h
    | some st =>
      rw [hla] at h
      simp only at h ⊢
      split at h
      · rename_i hs
        rw [if_pos hs]; exact h
      · rename_i hs
        rw [if_neg hs]
        cases hp : class_Pages.f a2 with
        | none => rw [hp] at h; cases h
        | some t =>
          rw [hp] at h
          simp only [Option.bind_some] at h ⊢
          split at h
          · rename_i ht
            rw [if_pos ht]
            cases hb : pages_Best.f k st.1 t.1 with
            | none => rw [hb] at h; cases h
            | some b => rw [hb] at h; rw [pages_Best.mono _ _ _ _ hb]; exact h
          · rename_i ht
            rw [if_neg ht]; exact h
  · cases h
set_option maxRecDepth 100000 in
set_option maxHeartbeats 1000000 in
theorem pages_Place.calls (k : Nat) (a0 : Int) (A1 : Option Addr) (c1 : Nat) (l1 : List S44) (a2 : Int) (r1 : Int) (r2 : Bool) (w : World) (hr1 : Kd.C k44 w A1 l1.length l1) (hc1 : l1.length ≤ c1) (h : pages_Place.f k a0 l1 a2 = some (r1, r2)) :
    Calls Try.prog 34 #[.int .i64 a0, .slice A1 l1.length c1, .int .i64 a2] w fun e w' => e = .returned (.tuple #[.int .i64 r1, .bool r2]) ∧ Below w.heap.size w w' := by
  unfold pages_Place.f at h
  by_cases hl : okL l1 = true
  · rw [if_pos hl] at h
    have hcal := laid_all a0 A1 c1 l1 w hl hr1
    cases hla : laid a0 l1 with
    | none =>
      rw [hla] at h
      obtain ⟨rfl, rfl⟩ := Prod.mk.inj (Option.some.inj h)
      have HCAL := Aside0.mk (hcal.mono (R' := fun e w' => e = .returned (.tuple #[.pointer none, .bool false]) ∧ Below w.heap.size w w') fun e w' hx => by
        rcases hx with ⟨_, h1, h2⟩ | ⟨_, _, _, h1, _⟩
        · exact ⟨h1, h2⟩
        · rw [hla] at h1; cases h1)
      clear hcal hla hr1 hc1 h hl
      go_enter Try.func34, Try.ntmps34
      go_wp2_with (go_at_call 44; refine HCAL.out.mono ?_; rintro e w2 ⟨rfl, hb⟩)
      go_ret2
      exact ⟨rfl, hb⟩
    | some st =>
      rw [hla] at h
      simp only at h
      have HCAL := Aside0.mk (hcal.mono (R' := fun e w' => ∃ gy gk, e = .returned (.tuple #[.pointer (some ⟨gy, 0, none⟩), .bool true]) ∧ Lay w' gy gk st.1 st.2 ∧ w.heap.size ≤ gk ∧ Below w.heap.size w w') fun e w' hx => by
        rcases hx with ⟨h1, _⟩ | ⟨gy, gk, st', h1, h2, h3, h4, h5, h6, h7⟩
        · rw [hla] at h1; cases h1
        · rw [hla] at h1
          obtain rfl := Option.some.inj h1
          exact ⟨gy, gk, h2, h3, h6, h7⟩)
      clear hcal hla hr1 hc1 hl
      obtain ⟨ks, cs⟩ := st
      simp only at h HCAL
      by_cases hs : 1 ≤ a2 ∧ a2 ≤ 120
      · rw [if_pos hs] at h
        have hcl := class_of_in a2
        have HOF := Aside0.mk (show class_Of.f a2 = some (class_of a2, true) by unfold class_Of.f; rw [if_pos hs])
        have HRES := Aside0.mk (Option.some.inj h)
        generalize class_of a2 = cl at hcl HOF HRES
        obtain ⟨hcl1, hcl2⟩ := hcl
        clear h hs
        go_enter Try.func34, Try.ntmps34
        go_wp2_with (first | (go_at_call 44; refine HCAL.out.mono ?_; rintro e w2 ⟨gy, gk, rfl, hL, hk, hb⟩; have HL := Aside0.mk hL; have HB := Aside0.mk hb; clear hL hb hk) | (go_at_call 15; refine (class_Of.calls a2 cl true _ HOF.out).mono ?_; rintro e w3 ⟨rfl, hb⟩; have HL3 := Aside0.mk (HL.out.below hb); have HB3 := Aside0.mk (below_step HB.out hb); clear hb) | (go_at_call 45; refine (cell_walk _ _ ks cs cl _ HL3.out hcl1 hcl2).mono ?_; rintro e w4 ⟨rfl, hb⟩; have HB4 := Aside0.mk (below_step HB3.out hb); clear hb))
        go_ret2
        rw [HRES.out]
        exact ⟨rfl, HB4.out⟩
      · rw [if_neg hs] at h
        have HOF := Aside0.mk (show class_Of.f a2 = some (0, false) by unfold class_Of.f; rw [if_neg hs])
        clear hs
        cases hp : class_Pages.f a2 with
        | none => rw [hp] at h; cases h
        | some t =>
          rw [hp] at h
          obtain ⟨need, err⟩ := t
          simp only [Option.bind_some] at h
          have HP := Aside0.mk hp
          clear hp
          by_cases ht : err = 0
          · rw [if_pos ht] at h
            subst ht
            cases hb : pages_Best.f k ks need with
            | none => rw [hb] at h; cases h
            | some b =>
              rw [hb] at h
              obtain ⟨b1, b2⟩ := b
              simp only [Option.bind_some, Option.some.injEq, Prod.mk.injEq] at h
              have HR1 := Aside0.mk h.1
              obtain rfl := h.2
              have HBE := Aside0.mk hb
              clear h hb
              go_enter Try.func34, Try.ntmps34
              go_wp2_with (first | (go_at_call 44; refine HCAL.out.mono ?_; rintro e w2 ⟨gy, gk, rfl, hL, hk, hb⟩; have HL := Aside0.mk hL; have HB := Aside0.mk hb; have HK := Aside0.mk hk; clear hL hb hk) | (go_at_call 15; refine (class_Of.calls a2 0 false _ HOF.out).mono ?_; rintro e w3 ⟨rfl, hb⟩; have HL3 := Aside0.mk (HL.out.below hb); have HB3 := Aside0.mk (below_step HB.out hb); clear hb) | (go_at_call 21; refine (class_Pages.calls a2 need 0 _ HP.out).mono ?_; rintro e w4 ⟨rfl, hb⟩; have hL4 := HL3.out.below hb; have h0 := hL4.head; have HL4 := Aside0.mk hL4; have HB4 := Aside0.mk (below_step HB3.out hb); clear hb hL4) | (go_at_call 28; refine (pages_Best.calls k _ _ ks need b1 b2 _ ((Kd.R_reads' (HL4.out.row (Nat.le_refl _))).2.2) (Nat.le_refl _) HBE.out).mono ?_; rintro e w5 ⟨rfl, hb⟩; have HB5 := Aside0.mk (below_step HB4.out hb); clear hb))
              go_ret2
              rw [← HR1.out]
              exact ⟨rfl, HB5.out⟩
          · rw [if_neg ht] at h
            obtain ⟨rfl, rfl⟩ := Prod.mk.inj (Option.some.inj h)
            have hne : (err != 0) = true := bne_iff_ne.2 ht
            have hne2 : (err == 0) = false := beq_eq_false_iff_ne.2 ht
            clear h ht
            go_enter Try.func34, Try.ntmps34
            go_wp2_with (first | (go_at_call 44; refine HCAL.out.mono ?_; rintro e w2 ⟨gy, gk, rfl, hL, hk, hb⟩; have HL := Aside0.mk hL; have HB := Aside0.mk hb; clear hL hb hk) | (go_at_call 15; refine (class_Of.calls a2 0 false _ HOF.out).mono ?_; rintro e w3 ⟨rfl, hb⟩; have HL3 := Aside0.mk (HL.out.below hb); have HB3 := Aside0.mk (below_step HB.out hb); clear hb) | (go_at_call 21; refine (class_Pages.calls a2 need err _ HP.out).mono ?_; rintro e w4 ⟨rfl, hb⟩; have HB4 := Aside0.mk (below_step HB3.out hb); clear hb))
            go_ret2
            exact ⟨rfl, HB4.out⟩
  · rw [if_neg hl] at h; cases h
end Go.Proofs.Ytlpkbekpdhaplaa.P
