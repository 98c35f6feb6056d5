-- Printed by wip/tools/pp.py.
import Derived.Test.YtlhemachmidoaaaP0
import Derived.Test.YtlhemachmidoaaaP16
import Derived.Test.YtlhemachmidoaaaP21
namespace Go.Proofs.Ytlhemachmidoaaa.P
open Go.RowKit Go.Proofs.YtlhemachmidoaaaW.PrintWords Go.Proofs.YtlhemachmidoaaaW.PrintLast Go.Proofs.YtlhemachmidoaaaW.PrintMore
attribute [local go_sem] max2_int min2_int max_two min_two max_three min_three max_four min_four   -- for this text's walks alone
set_option linter.unusedVariables false
set_option linter.unusedSimpArgs false

/-! ### joistref09_Drop: function 19 -/
def joistref09_Drop.f (k : Nat) (l0 : List (S37)) (a1 : ByteArray) : Option ((List (S37)) × Int) := (joistref09_asks.f k l0 a1).bind fun t239 => (if t239 = 0 then ((joistref09_at.f k l0 a1).bind fun t240 => (if t240 < 0 then (some (([] : List (S37)), 11)) else ((some (([] : List (S37)) : List (S37))).bind fun y241 => (if y241.length + l0.length < 4398046511104 then ((some (y241 ++ l0 : List (S37))).bind fun y244 => (if 0 ≤ t240 then (if t240 < (y244.length : Int) then (some ((y244.set (t240 : Int).toNat (⟨(⟨#[]⟩ : ByteArray), (⟨0, 0⟩ : S29)⟩ : S37)), 0)) else (none)) else (none))) else (none))))) else (some (([] : List (S37)), t239)))
theorem joistref09_Drop.mono : ∀ a0 a1 k, LeO (joistref09_Drop.f k a0 a1) (joistref09_Drop.f (k + 1) a0 a1) := by
  intro a0 a1 k
  unfold joistref09_Drop.f
  repeat' first
      | (with_reducible exact joistref09_asks.mono _ _ _)
      | (with_reducible exact joistref09_at.mono _ _ _)
      | (with_reducible exact LeO.refl _)
      | (with_reducible exact LeO.none _)
      | (with_reducible refine LeO.ite ?_ ?_)
      | (with_reducible refine LeO.bind ?_ (fun _ => ?_))
      | exact joistref09_asks.mono _ _ _
      | exact joistref09_at.mono _ _ _
      | exact LeO.none _
      | refine LeO.ite ?_ ?_
      | refine LeO.bind ?_ (fun _ => ?_)
set_option maxHeartbeats 8000000 in
set_option maxRecDepth 100000 in
theorem joistref09_Drop.calls (k : Nat) (A0 : Option Addr) (c0 : Nat) (l0 : List (S37)) (a1 : ByteArray) (r1 : List (S37)) (r2 : Int) (w : World) (hr0 : Kd.C k37 w A0 l0.length l0) (hc0 : l0.length ≤ c0) (h : joistref09_Drop.f k l0 a1 = some (r1, r2)) :
    Calls Try.prog 19 #[.slice A0 l0.length c0, .string a1] w fun e w' => ∃ v0_ : Value, e = .returned (.tuple #[v0_, .int .i64 r2]) ∧ Kd.R k37 37 w' w.heap.size (fun _ => True) v0_ r1 ∧ Below w.heap.size w w' := by
  have hu37 := Try.underlying37
  have HR0 := Aside0.mk hr0
  have HC0 := Aside0.mk hc0
  clear hr0 hc0
  have HB := Aside0.mk (Below.refl w.heap.size w)
  have H : ((joistref09_asks.f k l0 a1).bind fun t239 => (if t239 = 0 then ((joistref09_at.f k l0 a1).bind fun t240 => (if t240 < 0 then (some (([] : List (S37)), 11)) else ((some (([] : List (S37)) : List (S37))).bind fun y241 => (if y241.length + l0.length < 4398046511104 then ((some (y241 ++ l0 : List (S37))).bind fun y244 => (if 0 ≤ t240 then (if t240 < (y244.length : Int) then (some ((y244.set (t240 : Int).toNat (⟨(⟨#[]⟩ : ByteArray), (⟨0, 0⟩ : S29)⟩ : S37)), 0)) else (none)) else (none))) else (none))))) else (some (([] : List (S37)), t239)))) = some (r1, r2) := h
  clear h
  replace H := Option.bind_eq_some_iff.mp H
  obtain ⟨t239, A30, H⟩ := H
  replace H : (if t239 = 0 then ((joistref09_at.f k l0 a1).bind fun t240 => (if t240 < 0 then (some (([] : List (S37)), 11)) else ((some (([] : List (S37)) : List (S37))).bind fun y241 => (if y241.length + l0.length < 4398046511104 then ((some (y241 ++ l0 : List (S37))).bind fun y244 => (if 0 ≤ t240 then (if t240 < (y244.length : Int) then (some ((y244.set (t240 : Int).toNat (⟨(⟨#[]⟩ : ByteArray), (⟨0, 0⟩ : S29)⟩ : S37)), 0)) else (none)) else (none))) else (none))))) else (some (([] : List (S37)), t239))) = some (r1, r2) := H
  have A3 := Aside0.mk A30
  clear A30
  by_cases c4 : t239 = 0
  · rw [if_pos c4] at H
    have c4b0 : (t239 == 0) = true := beq_iff_eq.mpr c4
    have c4b1 : (t239 != 0) = false := bne_eq_false_iff_eq.mpr c4
    clear c4
    replace H := Option.bind_eq_some_iff.mp H
    obtain ⟨t240, A50, H⟩ := H
    replace H : (if t240 < 0 then (some (([] : List (S37)), 11)) else ((some (([] : List (S37)) : List (S37))).bind fun y241 => (if y241.length + l0.length < 4398046511104 then ((some (y241 ++ l0 : List (S37))).bind fun y244 => (if 0 ≤ t240 then (if t240 < (y244.length : Int) then (some ((y244.set (t240 : Int).toNat (⟨(⟨#[]⟩ : ByteArray), (⟨0, 0⟩ : S29)⟩ : S37)), 0)) else (none)) else (none))) else (none)))) = some (r1, r2) := H
    have A5 := Aside0.mk A50
    clear A50
    by_cases c6 : t240 < 0
    · rw [if_pos c6] at H
      have c6b0 : decide (t240 < 0) = true := decide_eq_true c6
      clear c6
      simp only [Option.some.injEq, Prod.mk.injEq] at H
      obtain ⟨rfl, rfl⟩ := H
      go_enter Try.func19, Try.ntmps19
      go_wp2_with (first | ((with_reducible refine gate_callee (f := 21) rfl ?_); refine goesL_ (some 11) rfl rfl Try.func21 (by kernel_rfl) rfl #[.slice A0 l0.length c0, .string a1] rfl (by (try simp only [List.map_toArray, List.map_cons, List.map_nil]); first | done | rfl | (simp only [List.length_drop, List.length_take]; rfl)) ?_; (with_reducible refine (joistref09_asks.calls k _ _ l0 a1 t239 _ ?side1 ?side2 A3.out).mono ?_); (case side1 => repeat (first | exact HR0.out | (with_reducible refine Kd.C_alloc ?_ _) | (with_reducible refine Kd.C_drewN ?_ _) | (with_reducible refine Kd.C_drew ?_))); (case side2 => exact HC0.out); rintro e w7 ⟨rfl, hb⟩; refine ⟨_, rfl, ?_⟩; have n0_ := Aside0.mk (below_step (by repeat (first | (with_reducible first | exact HB.out | apply below_alloc | apply pw_below_drewN | apply below_drew1) | exact HB.out)) hb); clear HB; have HB := n0_; clear n0_; (try clear hb); (try clear hb2); (try clear hk); (try clear hi)) | ((with_reducible refine gate_callee (f := 22) rfl ?_); refine goesL_ (some 17) rfl rfl Try.func22 (by kernel_rfl) rfl #[.slice A0 l0.length c0, .string a1] rfl (by (try simp only [List.map_toArray, List.map_cons, List.map_nil]); first | done | rfl | (simp only [List.length_drop, List.length_take]; rfl)) ?_; (with_reducible refine (joistref09_at.calls k _ _ l0 a1 t240 _ ?side1 ?side2 A5.out).mono ?_); (case side1 => repeat (first | exact (Kd.C_below HR0.out HB.out) | (with_reducible refine Kd.C_alloc ?_ _) | (with_reducible refine Kd.C_drewN ?_ _) | (with_reducible refine Kd.C_drew ?_))); (case side2 => exact HC0.out); rintro e w' ⟨rfl, ⟨nd, rfl⟩⟩; refine ⟨_, rfl, ?_⟩))
      go_ret2
      exact ⟨_, by first | rfl | (simp [errW_none, errW_some] <;> rfl) | (simp [*, errW_none, errW_some] <;> rfl), by first | exact Kd.R_nil _ _ _ _ _ | exact Kd.N_nil _ _ _ _ _ | exact Kd.V_nil _ _ _ _ _ | exact Kd.Q_nil _ _ _ _ _ | exact Kd.S_nil _ _ _ _ _, by repeat (first | (with_reducible first | exact HB.out | apply below_alloc | apply pw_below_drewN | apply below_drew1) | exact HB.out)⟩
    · rw [if_neg c6] at H
      have c6b0 : decide (t240 < 0) = false := decide_eq_false c6
      clear c6
      obtain ⟨y241, hy241⟩ : ∃ y_ : List (S37), y_ = (([] : List (S37))) := ⟨_, rfl⟩
      replace H : (if y241.length + l0.length < 4398046511104 then ((some (y241 ++ l0 : List (S37))).bind fun y244 => (if 0 ≤ t240 then (if t240 < (y244.length : Int) then (some ((y244.set (t240 : Int).toNat (⟨(⟨#[]⟩ : ByteArray), (⟨0, 0⟩ : S29)⟩ : S37)), 0)) else (none)) else (none))) else (none)) = some (r1, r2) := by first | (rw [hy241]; with_reducible exact H) | (have H2_ := (Option.bind_some _ _).symm.trans H; rw [hy241]; with_reducible exact H2_) | (have H2_ := (Option.bind_some _ _).symm.trans H; with_reducible exact H2_) | with_reducible exact H | (rw [hy241]; exact H) | exact H
      have Ny241 := Aside0.mk hy241
      clear hy241
      by_cases c8 : y241.length + l0.length < 4398046511104
      · rw [if_pos c8] at H
        have LMc8 := Aside0.mk c8
        clear c8
        obtain ⟨y244, hy244⟩ : ∃ y_ : List (S37), y_ = (y241 ++ l0) := ⟨_, rfl⟩
        replace H : (if 0 ≤ t240 then (if t240 < (y244.length : Int) then (some ((y244.set (t240 : Int).toNat (⟨(⟨#[]⟩ : ByteArray), (⟨0, 0⟩ : S29)⟩ : S37)), 0)) else (none)) else (none)) = some (r1, r2) := by first | (rw [hy244]; with_reducible exact H) | (have H2_ := (Option.bind_some _ _).symm.trans H; rw [hy244]; with_reducible exact H2_) | (have H2_ := (Option.bind_some _ _).symm.trans H; with_reducible exact H2_) | with_reducible exact H | (rw [hy244]; exact H) | exact H
        have Ny244 := Aside0.mk hy244
        clear hy244
        by_cases c9 : 0 ≤ t240
        · rw [if_pos c9] at H
          have c9b0 : decide (0 ≤ t240) = true := decide_eq_true c9
          clear c9
          by_cases c10 : t240 < (y244.length : Int)
          · rw [if_pos c10] at H
            have c10b0 : decide (t240 < (y244.length : Int)) = true := decide_eq_true c10
            clear c10
            obtain ⟨y247, hy247⟩ : ∃ y_ : List (S37), y_ = (y244.set (t240 : Int).toNat (⟨(⟨#[]⟩ : ByteArray), (⟨0, 0⟩ : S29)⟩ : S37)) := ⟨_, rfl⟩
            replace H : (some (y247, 0)) = some (r1, r2) := by first | (rw [hy247]; with_reducible exact H) | (have H2_ := (Option.bind_some _ _).symm.trans H; rw [hy247]; with_reducible exact H2_) | (have H2_ := (Option.bind_some _ _).symm.trans H; with_reducible exact H2_) | with_reducible exact H | (rw [hy247]; exact H) | exact H
            have Ny247 := Aside0.mk hy247
            clear hy247
            simp only [Option.some.injEq, Prod.mk.injEq] at H
            obtain ⟨rfl, rfl⟩ := H
            go_enter Try.func19, Try.ntmps19
            go_wp2_with (first | ((with_reducible refine gate_callee (f := 21) rfl ?_); refine goesL_ (some 11) rfl rfl Try.func21 (by kernel_rfl) rfl #[.slice A0 l0.length c0, .string a1] rfl (by (try simp only [List.map_toArray, List.map_cons, List.map_nil]); first | done | rfl | (simp only [List.length_drop, List.length_take]; rfl)) ?_; (with_reducible refine (joistref09_asks.calls k _ _ l0 a1 t239 _ ?side1 ?side2 A3.out).mono ?_); (case side1 => repeat (first | exact HR0.out | (with_reducible refine Kd.C_alloc ?_ _) | (with_reducible refine Kd.C_drewN ?_ _) | (with_reducible refine Kd.C_drew ?_))); (case side2 => exact HC0.out); rintro e w12 ⟨rfl, hb⟩; refine ⟨_, rfl, ?_⟩; have n0_ := Aside0.mk (below_step (by repeat (first | (with_reducible first | exact HB.out | apply below_alloc | apply pw_below_drewN | apply below_drew1) | exact HB.out)) hb); clear HB; have HB := n0_; clear n0_; (try clear hb); (try clear hb2); (try clear hk); (try clear hi)) | ((with_reducible refine gate_callee (f := 22) rfl ?_); refine goesL_ (some 17) rfl rfl Try.func22 (by kernel_rfl) rfl #[.slice A0 l0.length c0, .string a1] rfl (by (try simp only [List.map_toArray, List.map_cons, List.map_nil]); first | done | rfl | (simp only [List.length_drop, List.length_take]; rfl)) ?_; (with_reducible refine (joistref09_at.calls k _ _ l0 a1 t240 _ ?side1 ?side2 A5.out).mono ?_); (case side1 => repeat (first | exact (Kd.C_below HR0.out HB.out) | (with_reducible refine Kd.C_alloc ?_ _) | (with_reducible refine Kd.C_drewN ?_ _) | (with_reducible refine Kd.C_drew ?_))); (case side2 => exact HC0.out); rintro e w' ⟨rfl, ⟨nd, rfl⟩⟩; refine ⟨_, rfl, ?_⟩; (try (rw [drewN_self w12]; generalize hq_ : World.drewN w12 _ = w12; have n0_ : Aside0 (Below w.heap.size w w12) := ⟨by rw [← hq_]; exact (by repeat (first | (with_reducible first | exact HB.out | apply below_alloc | apply pw_below_drewN | apply below_drew1) | exact HB.out))⟩; clear HB hq_; have HB := n0_; clear n0_))) | ((with_reducible refine gate_dst (N := 20) rfl ?_); refine Kd.R_lit k37 _ 37 ?hg (N := 20) ?hd (xs := ([] : List (S37))) (inner := []) (ok := fun _ => True) (okp := fun _ => True) ?hr ?hp (fun _ hk => hk) trivial (Below.refl _ _) (Nat.le_refl _) (by simp) ?_; (case hd => rfl); (case hg => rfl); (case hr => first | (go_simp; done) | (go_simp; rfl)); (case hp => exact (Reps.none _ _)); intro v242 w13 ho14 hb hg_ hnew_; clear hg_ hnew_; (first | rw [← Ny241.out] at ho14 | (simp only [Int.reduceToNat] at ho14; rw [← Ny241.out] at ho14)); have n0_ := Aside0.mk (Kd.R_lower ho14 (below_size (by repeat (first | (with_reducible first | exact HB.out | apply below_alloc | apply pw_below_drewN | apply below_drew1) | exact HB.out)))); have n1_ := Aside0.mk (below_step (by repeat (first | (with_reducible first | exact HB.out | apply below_alloc | apply pw_below_drewN | apply below_drew1) | exact HB.out)) hb); clear HB; have HO243 := n0_; have HB := n1_; clear n0_ n1_; clear hb ho14) | ((with_reducible refine gate_builtin (b := .append) (xs := #[.tmp 20, .tmp 21]) rfl ?_); at_builtin; refine Kd.R_append_rows k37 (w0 := w) w.heap.size rfl (.tmp 20) (.tmp 21) 22 37 (.agg #[(.string ⟨#[]⟩), (.int .i64 0), (.int .i64 0)]) 32 rfl Try.underlying22 info37 rfl (by decide) (by omega) v242 y241 l0 _ _ _ (fun _ => True) (fun _ => False) rfl rfl ?aO ?aR (fun _ _ h => h) (fun _ h => h.elim) ?aF ?aB ?aS ?aL ?_; (case aR => repeat (first | exact (Kd.C_below HR0.out HB.out) | (with_reducible refine Kd.C_alloc ?_ _) | (with_reducible refine Kd.C_drewN ?_ _) | (with_reducible refine Kd.C_drew ?_))); (case aB => exact (by repeat (first | (with_reducible first | exact HB.out | apply below_alloc | apply pw_below_drewN | apply below_drew1) | exact HB.out))); (case aF => exact (fun _ _ => trivial)); (case aO => exact (by (with_reducible repeat (first | apply Kd.R_alloc | apply Kd.R_drewN | apply Kd.R_drew)); exact HO243.out)); (case aS => exact (below_size (by repeat (first | (with_reducible first | exact HB.out | apply below_alloc | apply pw_below_drewN | apply below_drew1) | exact HB.out)))); (case aL => have := LMc8.out; omega); intro v245 w15 ho hb hg hat; rw [← Ny244.out] at ho; have n0_ := Aside0.mk (hb); have n1_ := Aside0.mk (ho); clear HB; clear HO243; have HB := n0_; have HO246 := n1_; clear n0_ n1_; clear ho hb hg hat; have p11 : 0 ≤ (t240 : Int) := of_decide_eq_true (by first | (with_reducible assumption) | assumption); have q11 : (t240 : Int) < ((y244.length : Int) : Int) := of_decide_eq_true (by first | (with_reducible assumption) | assumption); obtain ⟨go11, co11, eo11, gb11, gl11, cl11, HG11⟩ := Kd.R_form HO246.out (by omega); (first | cases eo11 | (injection eo11 with ea_ en_ ec_; (first | subst ea_ | (injection ea_ with ea_; subst ea_)); subst ec_; clear en_)); have GB11 := Aside0.mk gb11; have GG11 := Aside0.mk HG11; clear gb11 gl11 HG11; obtain ⟨ce11, hcl11, hM11, hcc11, hfr11⟩ := Kd.R_elem HO246.out z37 (t240 : Int) p11 q11; obtain rfl := k37_openM hM11; have hx11_0 : w15.cell? ⟨go11, (t240 : Int).toNat * 3, none⟩ = some (.string ((rd_T37 y244 t240).f0)) := hcc11 0 _ rfl; have hx11_1 : w15.cell? ⟨go11, (t240 : Int).toNat * 3 + 1, none⟩ = some (.int .i64 ((rd_T37 y244 t240).f1.f0)) := hcc11 1 _ rfl; have hx11_2 : w15.cell? ⟨go11, (t240 : Int).toNat * 3 + 2, none⟩ = some (.int .i64 ((rd_T37 y244 t240).f1.f1)) := hcc11 2 _ rfl; have hf11_0 : w15.frozen? ⟨go11, (t240 : Int).toNat * 3, none⟩ = false := hfr11 0; have hf11_1 : w15.frozen? ⟨go11, (t240 : Int).toNat * 3 + 1, none⟩ = false := hfr11 1; have hf11_2 : w15.frozen? ⟨go11, (t240 : Int).toNat * 3 + 2, none⟩ = false := hfr11 2; clear hcl11 hcc11 hfr11 hM11; replace p11 := eq_true p11; replace q11 := eq_true q11; have HX16 := Aside0.mk (show Kd.R k37 37 w15 w.heap.size (fun _ => True) (.slice (some ⟨go11, 0, none⟩) y244.length co11) y244 from (by (with_reducible repeat (first | apply Kd.R_alloc | apply Kd.R_drewN | apply Kd.R_drew)); exact HO246.out)); obtain ⟨ce16, hcl16, hM16, hcc16, hfr16⟩ := Kd.R_elem HX16.out z37 (t240 : Int) (of_decide_eq_true (by first | (with_reducible assumption) | assumption)) (by have h_ : (t240 : Int) < ((y244.length : Int) : Int) := of_decide_eq_true (by first | (with_reducible assumption) | assumption); first | exact h_ | (have e_ := (Kd.R_reads' HO246.out).1; omega) | simpa using h_); obtain rfl := k37_openM hM16; have HP16 := Kd.R_seg HX16.out (t240 : Int) (of_decide_eq_true (by first | (with_reducible assumption) | assumption)) (by have h_ : (t240 : Int) < ((y244.length : Int) : Int) := of_decide_eq_true (by first | (with_reducible assumption) | assumption); first | exact h_ | (have e_ := (Kd.R_reads' HO246.out).1; omega) | simpa using h_) (seg := [.string (⟨#[]⟩ : ByteArray), .int .i64 0, .int .i64 0]) (j := 0) hcl16 hcc16 (show 3 ≤ 3 from by decide) (x' := (⟨(⟨#[]⟩ : ByteArray), (⟨0, 0⟩ : S29)⟩ : S37)) (k37_mkM _ _ _ (⟨(⟨#[]⟩ : ByteArray), (⟨0, 0⟩ : S29)⟩ : S37) ) (fun _ hk => hk); have hx16_0 := hcc16 0 _ rfl; (try simp only [show (k37).sz = 3 from rfl, Nat.mul_one, Nat.add_zero] at hx16_0); have hf16_0 := hfr16 0; (try simp only [show (k37).sz = 3 from rfl, Nat.mul_one, Nat.add_zero] at hf16_0); have hx16_1 := hcc16 1 _ rfl; (try simp only [show (k37).sz = 3 from rfl, Nat.mul_one, Nat.add_zero] at hx16_1); have hf16_1 := hfr16 1; (try simp only [show (k37).sz = 3 from rfl, Nat.mul_one, Nat.add_zero] at hf16_1); have hx16_2 := hcc16 2 _ rfl; (try simp only [show (k37).sz = 3 from rfl, Nat.mul_one, Nat.add_zero] at hx16_2); have hf16_2 := hfr16 2; (try simp only [show (k37).sz = 3 from rfl, Nat.mul_one, Nat.add_zero] at hf16_2); clear hcl16 hcc16 hfr16 hM16) | ((with_reducible refine gate_store (t := 37) (p := 26) rfl ?_); refine store_event (t := 37) (p := 26) (v := ?vo_w17) (w1 := (((w15.setCell ⟨go11, (t240 : Int).toNat * 3, none⟩ (.string (⟨#[]⟩ : ByteArray))).setCell ⟨go11, (t240 : Int).toNat * 3 + 1, none⟩ (.int .i64 0)).setCell ⟨go11, (t240 : Int).toNat * 3 + 2, none⟩ (.int .i64 0))) ?hg ?ho ?hn ?hr ?_; (case ho => rfl); (case hg => rfl); (case hn => rfl); (case hr => first | (go_simp; done) | (go_simp; rfl)); intro w17 hw; have hg : w15.grownBy w17 (some go11) := (by rw [hw]; exact HP16.2); have hp_ : Kd.R k37 37 w17 w.heap.size (fun _ => True) (.slice (some ⟨go11, 0, none⟩) y244.length co11) y247 := (by rw [hw, Ny247.out]; exact HP16.1); clear HP16; have n0_ := Aside0.mk (hp_); have n1_ := Aside0.mk ((by rw [hw]; exact below_set (below_set (below_set (HB.out) GB11.out) GB11.out) GB11.out : Below w.heap.size w w17)); clear HO246; clear HB; have HO246 := n0_; have HB := n1_; clear n0_ n1_; clear hg hw hp_))
            go_ret2
            exact ⟨_, by first | rfl | (simp [errW_none, errW_some] <;> rfl) | (simp [*, errW_none, errW_some] <;> rfl), by (with_reducible repeat (first | apply Kd.R_alloc | apply Kd.R_drewN | apply Kd.R_drew)); exact HO246.out, by repeat (first | (with_reducible first | exact HB.out | apply below_alloc | apply pw_below_drewN | apply below_drew1) | exact HB.out)⟩
          · rw [if_neg c10] at H
            exact absurd H (by simp)
        · rw [if_neg c9] at H
          exact absurd H (by simp)
      · rw [if_neg c8] at H
        exact absurd H (by simp)
  · rw [if_neg c4] at H
    have c4b0 : (t239 == 0) = false := beq_eq_false_iff_ne.mpr c4
    have c4b1 : (t239 != 0) = true := bne_iff_ne.mpr c4
    simp only [Option.some.injEq, Prod.mk.injEq] at H
    obtain ⟨rfl, rfl⟩ := H
    go_enter Try.func19, Try.ntmps19
    go_wp2_with (first | ((with_reducible refine gate_callee (f := 21) rfl ?_); refine goesL_ (some 11) rfl rfl Try.func21 (by kernel_rfl) rfl #[.slice A0 l0.length c0, .string a1] rfl (by (try simp only [List.map_toArray, List.map_cons, List.map_nil]); first | done | rfl | (simp only [List.length_drop, List.length_take]; rfl)) ?_; (with_reducible refine (joistref09_asks.calls k _ _ l0 a1 t239 _ ?side1 ?side2 A3.out).mono ?_); (case side1 => repeat (first | exact HR0.out | (with_reducible refine Kd.C_alloc ?_ _) | (with_reducible refine Kd.C_drewN ?_ _) | (with_reducible refine Kd.C_drew ?_))); (case side2 => exact HC0.out); rintro e w18 ⟨rfl, hb⟩; refine ⟨_, rfl, ?_⟩; have n0_ := Aside0.mk (below_step (by repeat (first | (with_reducible first | exact HB.out | apply below_alloc | apply pw_below_drewN | apply below_drew1) | exact HB.out)) hb); clear HB; have HB := n0_; clear n0_; (try clear hb); (try clear hb2); (try clear hk); (try clear hi)))
    go_ret2
    exact ⟨_, by first | rfl | (simp [errW_none, errW_some] <;> rfl) | (simp [*, errW_none, errW_some] <;> rfl), by first | exact Kd.R_nil _ _ _ _ _ | exact Kd.N_nil _ _ _ _ _ | exact Kd.V_nil _ _ _ _ _ | exact Kd.Q_nil _ _ _ _ _ | exact Kd.S_nil _ _ _ _ _, by repeat (first | (with_reducible first | exact HB.out | apply below_alloc | apply pw_below_drewN | apply below_drew1) | exact HB.out)⟩

end Go.Proofs.Ytlhemachmidoaaa.P
