/- What gaps.Gaps and gaps.Right return, whatever spans they are called with. -/
import Derived.Test.YtcjalhlejneddaaP0
import Derived.WalkSpells
import Derived.LoopTactic
import Derived.Outline
namespace Go.Proofs.Ytcjalhlejneddaa.P
open Go.RowKit Go.Proofs.YtcjalhlejneddaaW.PrintWords Go.Proofs.YtcjalhlejneddaaW.PrintLast Go.Proofs.YtcjalhlejneddaaW.PrintMore
set_option linter.unusedVariables false
set_option linter.unusedSimpArgs false

/-! ### gaps.even: function 26 -/
theorem gaps_even.calls (a0 : Int) (h : 0 ≤ a0) (b : Bool) (hb : (a0 % 4 == 0) = b) (w : World) :
    Calls Try.prog 26 #[.int .i64 a0] w fun e w' => e = .returned (.bool b) ∧ w = w' := by
  go_enter Try.func26, Try.ntmps26
  go_wp2
  go_ret
  exact ⟨by first | rfl | (simp [← hb]; done), rfl⟩
/-! ### the closure of gaps.Gaps: function 24 -/
def gaps_push (acc : List S25) (at_ e : Int) : List S25 := if e > at_ then acc ++ [⟨at_, e - at_⟩] else acc
set_option maxRecDepth 100000 in
theorem gaps_Gaps1.calls (at_ e_ : Int) (g : Nat) (v : Value) (acc : List S25) (w0 w : World) (hat : 0 ≤ at_) (hat2 : at_ ≤ 2048) (he : 0 ≤ e_) (he2 : e_ ≤ 2048)
    (hg : w.heap[g]? = some (.cells #[v] 22 (0, 0))) (hR : Kd.R k25 25 w w0.heap.size (fun _ => True) v acc) (hB : Below w0.heap.size w0 w) (hge : w0.heap.size ≤ g) (hl : acc.length ≤ 4096) :
    Calls Try.prog 24 #[.int .i64 at_, .int .i64 e_, .pointer (some ⟨g, 0, none⟩)] w fun e w' => e = .returned (.tuple #[]) ∧ ∃ v', w'.heap[g]? = some (.cells #[v'] 22 (0, 0)) ∧ Kd.R k25 25 w' w0.heap.size (fun _ => True) v' (gaps_push acc at_ e_) ∧ Below w0.heap.size w0 w' ∧ KeepBut w w' g v.ownBlock := by
  have hu := Try.underlying25
  have HG := Aside0.mk hg
  have HR := Aside0.mk hR
  have HB := Aside0.mk hB
  clear hR hB
  by_cases hlt : at_ < e_
  · have hc0 : w.cell? ⟨g, 0, none⟩ = some v := (blk_cell hg 0).trans rfl
    have hf0 := blk_frozen hg 0
    clear hg
    go_enter Try.func24, Try.ntmps24
    go_wp2_with (first | ((with_reducible refine gate_builtin (b := .append) (xs := #[.tmp 8, .tmp 14]) rfl ?_); at_builtin; refine Kd.R_append k25 (w0 := w0) w0.heap.size rfl (.tmp 8) (.tmp 14) 22 25 (.agg #[(.int .i64 0), (.int .i64 0)]) 16 rfl Try.underlying22 info25 rfl (by decide) (by omega) v acc (⟨at_, e_ - at_⟩ : S25) [.int .i64 at_, .int .i64 (e_ - at_)] (fun _ => True) (fun _ => False) rfl rfl ?aP (fun _ hk => hk.elim) ?aF ?aO ?aB ?aS ?aL ?_; (case aP => exact k25_mkM _ _ _ (⟨at_, e_ - at_⟩ : S25)); (case aB => exact HB.out); (case aF => exact (fun _ _ => trivial)); (case aO => exact HR.out); (case aS => exact (below_size HB.out)); (case aL => omega); intro v1 w1 ho hb hgr hat; have hg1 := blk_grown HG.out hgr (Kd.R_ne HR.out HG.out (by decide)); have hc1 : w1.cell? ⟨g, 0, none⟩ = some v := (blk_cell hg1 0).trans rfl; have hf1 := blk_frozen hg1 0; obtain ⟨A1, c1, rfl⟩ := Kd.R_slice ho; have HO := Aside0.mk ho; have HG1 := Aside0.mk hg1; have HB1 := Aside0.mk hb; have HK := Aside0.mk (KeepBut.of_grown hgr g); clear ho hg1 hb hgr hat))
    go_end0
    refine ⟨rfl, _, blk_set HG1.out 0 _, ?_, below_set HB1.out hge, KeepBut.set_ HK.out 0 _⟩
    unfold gaps_push; rw [if_pos (by omega)]; have h9 := HO.out; rw [List.length_append, List.length_singleton] at h9; exact Kd.R_set h9 HG1.out (by decide) 0 _
  · go_enter Try.func24, Try.ntmps24
    go_wp2
    go_end0
    exact ⟨rfl, v, HG.out, by unfold gaps_push; rw [if_neg (by omega)]; exact HR.out, HB.out, KeepBut.refl _ _ _⟩
/-! ### gaps.between, with the closure of gaps.Gaps: function 23 -/
def gaps_fits (at_ tt : Int) (s : S25) : Prop := at_ ≤ s.f0 ∧ s.f0 ≤ tt ∧ 4 ≤ s.f1 ∧ s.f1 ≤ tt - s.f0 ∧ s.f0 % 4 = 0 ∧ s.f1 % 4 = 0
instance (at_ tt : Int) (s : S25) : Decidable (gaps_fits at_ tt s) := by unfold gaps_fits; infer_instance
def gaps_walk (tt : Int) : List S25 → Int → List S25 → Option (List S25)
  | acc, at_, [] => some (gaps_push acc at_ tt)
  | acc, at_, s :: r => if gaps_fits at_ tt s then gaps_walk tt (gaps_push acc at_ s.f0) (s.f0 + s.f1) r else none
def gaps_edges (fr tt : Int) : Prop := 0 ≤ fr ∧ fr ≤ tt ∧ tt ≤ 2048 ∧ fr % 4 = 0 ∧ tt % 4 = 0
instance (fr tt : Int) : Decidable (gaps_edges fr tt) := by unfold gaps_edges; infer_instance
theorem gaps_push_length (acc : List S25) (a e : Int) : (gaps_push acc a e).length ≤ acc.length + 1 := by
  unfold gaps_push
  split <;> simp
structure gaps_At (tt fr : Int) (l2 acc : List S25) (k : Nat) (a : Int) : Prop where
  hk : k ≤ l2.length
  ha : 0 ≤ a
  ha2 : a ≤ tt
  hl : acc.length ≤ k
  h4 : 4 * k ≤ a
  hw : gaps_walk tt acc a (l2.drop k) = gaps_walk tt [] fr l2
theorem gaps_drop {l2 : List S25} {k : Nat} (h : k < l2.length) : l2.drop k = rd_T25 l2 k :: l2.drop (k + 1) := by
  rw [List.drop_eq_getElem_cons h]
  congr 1
  unfold rd_T25
  rw [Int.toNat_natCast, List.getD_eq_getElem?_getD, List.getElem?_eq_getElem h]
  rfl
theorem gaps_At.next {tt fr : Int} {l2 acc : List S25} {k : Nat} {a : Int} (h : gaps_At tt fr l2 acc k a) (hk : k < l2.length) (hf : gaps_fits a tt (rd_T25 l2 k)) :
    gaps_At tt fr l2 (gaps_push acc a (rd_T25 l2 k).f0) (k + 1) ((rd_T25 l2 k).f0 + (rd_T25 l2 k).f1) := by
  have hl := gaps_push_length acc a (rd_T25 l2 k).f0
  have h0 := h.hl
  have h1 := h.h4
  have hw := h.hw
  rw [gaps_drop hk] at hw
  simp only [gaps_walk] at hw
  rw [if_pos hf] at hw
  obtain ⟨f1, f2, f3, f4, _, _⟩ := hf
  have := h.ha
  exact ⟨by omega, by omega, by omega, by omega, by omega, hw⟩
theorem gaps_At.bad {tt fr : Int} {l2 acc : List S25} {k : Nat} {a : Int} (h : gaps_At tt fr l2 acc k a) (hk : k < l2.length) (hf : ¬ gaps_fits a tt (rd_T25 l2 k)) :
    gaps_walk tt [] fr l2 = none := by
  have hw := h.hw
  rw [gaps_drop hk] at hw
  simp only [gaps_walk] at hw
  rw [if_neg hf] at hw
  exact hw.symm
theorem gaps_At.done {tt fr : Int} {l2 acc : List S25} {k : Nat} {a : Int} (h : gaps_At tt fr l2 acc k a) (hk : ¬ k < l2.length) : gaps_walk tt [] fr l2 = some (gaps_push acc a tt) := by
  have hw := h.hw
  rw [List.drop_of_length_le (by omega)] at hw
  exact hw.symm
theorem gaps_new {w : World} {base : Nat} {ok : Nat → Prop} {v : Value} {xs : List S25} (h : Kd.R k25 25 w base ok v xs) : some w.heap.size ≠ v.ownBlock := by
  obtain ⟨inner, ho⟩ := Kd.R_own h
  intro e
  have := own_lt ho _ e.symm
  omega
def gaps_End (g : Nat) (w0 : World) (R : Option (List S25)) (e : Ending) (w' : World) : Prop :=
  e = .returned (.bool R.isSome) ∧ (∃ v', w'.heap[g]? = some (.cells #[v'] 22 (0, 0)) ∧ ∀ r, R = some r → Kd.R k25 25 w' w0.heap.size (fun _ => True) v' r) ∧ Below w0.heap.size w0 w'
set_option maxRecDepth 100000 in
set_option maxHeartbeats 4000000 in
theorem gaps_between.calls (fr tt : Int) (A2 : Option Addr) (c2 : Nat) (l2 : List S25) (g : Nat) (w0 w : World) (hr2 : Kd.C k25 w0 A2 l2.length l2) (he : gaps_edges fr tt)
    (hg : w.heap[g]? = some (.cells #[.slice none 0 0] 22 (0, 0))) (hB : Below w0.heap.size w0 w) (hge : w0.heap.size ≤ g) :
    Calls Try.prog 23 #[.int .i64 fr, .int .i64 tt, .slice A2 l2.length c2, .func (.func 24) #[] #[.pointer (some ⟨g, 0, none⟩)]] w (gaps_End g w0 (gaps_walk tt [] fr l2)) := by
  have hu := Try.underlying25
  obtain ⟨h1, h2, h3, h4, h5⟩ := he
  have e4 : (fr % 4 == 0) = true := beq_iff_eq.2 h4
  have e5 : (tt % 4 == 0) = true := beq_iff_eq.2 h5
  have HE4 := Aside0.mk e4
  have HE5 := Aside0.mk e5
  have HG := Aside0.mk hg
  have HR2 := Aside0.mk hr2
  have HB := Aside0.mk hB
  clear e4 e5 hg hr2 hB h4 h5
  go_enter Try.func23, Try.ntmps23
  go_wp2_with (go_at_call 26; first | (refine (gaps_even.calls fr h1 _ HE4.out _).mono ?_; rintro e w' ⟨rfl, rfl⟩) | (refine (gaps_even.calls tt (by omega) _ HE5.out _).mono ?_; rintro e w' ⟨rfl, rfl⟩))
  go_loopw [9, 36] (fun x i wr => ∃ (k : Nat) (a : Int) (acc : List S25) (v : Value), i = .int .i64 k ∧ x = .int .i64 a ∧ gaps_At tt fr l2 acc k a ∧ Aside0 (wr.heap[g]? = some (.cells #[v] 22 (0, 0))) ∧ Aside0 (Kd.R k25 25 wr w0.heap.size (fun _ => True) v acc) ∧ Aside0 (Below w0.heap.size w0 wr)) (fun _ i _ => l2.length - (intOf i).toNat)
  case atStart => exact ⟨0, fr, [], _, rfl, rfl, ⟨by omega, h1, h2, by simp, by omega, rfl⟩, HG, ⟨Kd.R_nil _ _ _ _ _⟩, HB⟩
  case round =>
    obtain ⟨k, a, acc, v, rfl, rfl, HA, HG, HR, HB⟩ := hrel
    have ha := HA.ha
    have ha2 := HA.ha2
    have hl := HA.hl
    have hk4 := HA.h4
    by_cases hlt : k < l2.length
    · obtain ⟨ad, e_, hx0, hx1⟩ := at_T25 (Kd.C_below HR2.out HB.out) (k : Int) (by omega) (by omega)
      cases e_
      rw [Int.toNat_natCast] at hx0 hx1
      have HNX := Aside0.mk (fun hf => HA.next hlt hf)
      have HBD := Aside0.mk (fun hf => HA.bad hlt hf)
      clear HA
      generalize rd_T25 l2 (k : Int) = s at hx0 hx1 HNX HBD
      obtain ⟨s0, s1⟩ := s
      by_cases c1 : s0 < a
      · have HN := Aside0.mk (HBD.out (fun z => by have := z.1; simp only at this; omega))
        clear HNX HBD
        go_wp2
        go_ret
        unfold gaps_End
        rw [HN.out]
        exact ⟨rfl, ⟨v, blk_alloc HG.out _, fun r hr => by cases hr⟩, below_alloc HB.out _⟩
      · by_cases c2 : tt < s0
        · have HN := Aside0.mk (HBD.out (fun z => by obtain ⟨z1, z2, z3, z4, z5, z6⟩ := z; simp only at z1 z2 z3 z4 z5 z6; omega))
          clear HNX HBD
          go_wp2
          go_ret
          unfold gaps_End
          rw [HN.out]
          exact ⟨rfl, ⟨v, blk_alloc HG.out _, fun r hr => by cases hr⟩, below_alloc HB.out _⟩
        · by_cases c3 : s1 < 4
          · have HN := Aside0.mk (HBD.out (fun z => by obtain ⟨z1, z2, z3, z4, z5, z6⟩ := z; simp only at z1 z2 z3 z4 z5 z6; omega))
            clear HNX HBD
            go_wp2
            go_ret
            unfold gaps_End
            rw [HN.out]
            exact ⟨rfl, ⟨v, blk_alloc HG.out _, fun r hr => by cases hr⟩, below_alloc HB.out _⟩
          · by_cases c4 : tt - s0 < s1
            · have HN := Aside0.mk (HBD.out (fun z => by obtain ⟨z1, z2, z3, z4, z5, z6⟩ := z; simp only at z1 z2 z3 z4 z5 z6; omega))
              clear HNX HBD
              go_wp2
              go_ret
              unfold gaps_End
              rw [HN.out]
              exact ⟨rfl, ⟨v, blk_alloc HG.out _, fun r hr => by cases hr⟩, below_alloc HB.out _⟩
            · by_cases c5 : s0 % 4 = 0
              · by_cases c6 : s1 % 4 = 0
                · have HN := Aside0.mk (HNX.out ⟨by simp only; omega, by simp only; omega, by simp only; omega, by simp only; omega, c5, c6⟩)
                  have HV0 := Aside0.mk (show (s0 % 4 == 0) = true from beq_iff_eq.2 c5)
                  have HV1 := Aside0.mk (show (s1 % 4 == 0) = true from beq_iff_eq.2 c6)
                  clear HNX HBD c5 c6
                  have hk : k < 512 := by omega
                  have d1 : ¬ s0 < a := c1
                  go_wp2_with (first | (go_at_call 26; first | (refine (gaps_even.calls s0 (by omega) _ HV0.out _).mono ?_; rintro e w' ⟨rfl, rfl⟩) | (refine (gaps_even.calls s1 (by omega) _ HV1.out _).mono ?_; rintro e w' ⟨rfl, rfl⟩)) | (go_at_call 24; refine (gaps_Gaps1.calls a s0 g v acc w0 _ ha (by omega) (by omega) (by omega) (blk_alloc HG.out _) (Kd.R_alloc HR.out _) (below_alloc HB.out _) hge (by omega)).mono ?_; rintro e w2 ⟨rfl, v', hg', hr', hb', hkb⟩; have hs2 := hkb.blk (blk_new wr _) (by have := blk_lt HG.out; omega) (gaps_new HR.out); have y0 : w2.cell? ⟨wr.heap.size, 0, none⟩ = some (.int .i64 s0) := (blk_cell hs2 0).trans rfl; have y1 : w2.cell? ⟨wr.heap.size, 1, none⟩ = some (.int .i64 s1) := (blk_cell hs2 1).trans rfl; clear hkb hs2; have HG2 := Aside0.mk hg'; have HR3 := Aside0.mk hr'; have HB2 := Aside0.mk hb'; clear hg' hr' hb'))
                  go_roundw
                  case rel => exact ⟨k + 1, s0 + s1, _, v', by go_num, rfl, HN.out, HG2, HR3, HB2⟩
                  case measure => simp [intOf]; omega
                · have HV0 := Aside0.mk (show (s0 % 4 == 0) = true from beq_iff_eq.2 c5)
                  have HV1 := Aside0.mk (show (s1 % 4 == 0) = false from beq_eq_false_iff_ne.2 c6)
                  have HN := Aside0.mk (HBD.out (fun z => by obtain ⟨z1, z2, z3, z4, z5, z6⟩ := z; simp only at z1 z2 z3 z4 z5 z6; omega))
                  clear HNX HBD
                  go_wp2_with (go_at_call 26; first | (refine (gaps_even.calls s0 (by omega) _ HV0.out _).mono ?_; rintro e w' ⟨rfl, rfl⟩) | (refine (gaps_even.calls s1 (by omega) _ HV1.out _).mono ?_; rintro e w' ⟨rfl, rfl⟩))
                  go_ret
                  unfold gaps_End
                  rw [HN.out]
                  exact ⟨rfl, ⟨v, blk_alloc HG.out _, fun r hr => by cases hr⟩, below_alloc HB.out _⟩
              · have HV0 := Aside0.mk (show (s0 % 4 == 0) = false from beq_eq_false_iff_ne.2 c5)
                have HN := Aside0.mk (HBD.out (fun z => by obtain ⟨z1, z2, z3, z4, z5, z6⟩ := z; simp only at z1 z2 z3 z4 z5 z6; omega))
                clear HNX HBD
                go_wp2_with (go_at_call 26; (refine (gaps_even.calls s0 (by omega) _ HV0.out _).mono ?_; rintro e w' ⟨rfl, rfl⟩))
                go_ret
                unfold gaps_End
                rw [HN.out]
                exact ⟨rfl, ⟨v, blk_alloc HG.out _, fun r hr => by cases hr⟩, below_alloc HB.out _⟩
    · have HN := Aside0.mk (HA.done hlt)
      clear HA
      go_wp2_with (go_at_call 24; refine (gaps_Gaps1.calls a tt g v acc w0 _ ha (by omega) (by omega) h3 HG.out HR.out HB.out hge (by omega)).mono ?_; rintro e w' ⟨rfl, v', hg', hr', hb', _⟩)
      go_ret
      unfold gaps_End
      rw [HN.out]
      exact ⟨rfl, ⟨v', hg', fun r hr => by obtain rfl := Option.some.inj hr; exact hr'⟩, hb'⟩
set_option maxRecDepth 100000 in
theorem gaps_between.no (fr tt : Int) (A2 : Option Addr) (c2 : Nat) (n2 : Nat) (fv : Value) (w : World) (he : ¬ gaps_edges fr tt) :
    Calls Try.prog 23 #[.int .i64 fr, .int .i64 tt, .slice A2 n2 c2, fv] w fun e w' => e = .returned (.bool false) ∧ w = w' := by
  unfold gaps_edges at he
  by_cases c1 : fr < 0
  · clear he
    go_enter Try.func23, Try.ntmps23
    go_wp2
    go_ret
    exact ⟨rfl, rfl⟩
  · by_cases c2 : tt < fr
    · clear he
      go_enter Try.func23, Try.ntmps23
      go_wp2
      go_ret
      exact ⟨rfl, rfl⟩
    · by_cases c3 : 2048 < tt
      · clear he
        go_enter Try.func23, Try.ntmps23
        go_wp2
        go_ret
        exact ⟨rfl, rfl⟩
      · by_cases c5 : fr % 4 = 0
        · have HV0 := Aside0.mk (show (fr % 4 == 0) = true from beq_iff_eq.2 c5)
          have HV1 := Aside0.mk (show (tt % 4 == 0) = false from beq_eq_false_iff_ne.2 (fun c6 => he ⟨by omega, by omega, by omega, c5, c6⟩))
          clear he c5
          go_enter Try.func23, Try.ntmps23
          go_wp2_with (go_at_call 26; first | (refine (gaps_even.calls fr (by omega) _ HV0.out _).mono ?_; rintro e w' ⟨rfl, rfl⟩) | (refine (gaps_even.calls tt (by omega) _ HV1.out _).mono ?_; rintro e w' ⟨rfl, rfl⟩))
          go_ret
          exact ⟨rfl, rfl⟩
        · have HV0 := Aside0.mk (show (fr % 4 == 0) = false from beq_eq_false_iff_ne.2 c5)
          clear he c5
          go_enter Try.func23, Try.ntmps23
          go_wp2_with (go_at_call 26; first | (refine (gaps_even.calls fr (by omega) _ HV0.out _).mono ?_; rintro e w' ⟨rfl, rfl⟩))
          go_ret
          exact ⟨rfl, rfl⟩
/-! ### gaps.Gaps: function 14 -/
def gaps_Gaps.f (a0 a1 : Int) (l2 : List S25) : Option ((List S25) × Int) :=
  some (if gaps_edges a0 a1 then (match gaps_walk a1 [] a0 l2 with | some r => (r, 0) | none => ([], 1)) else ([], 1))
set_option maxRecDepth 100000 in
theorem gaps_Gaps.calls (a0 : Int) (a1 : Int) (A2 : Option Addr) (c2 : Nat) (l2 : List (S25)) (r1 : List (S25)) (r2 : Int) (w : World) (hr2 : Kd.C k25 w A2 l2.length l2) (hc2 : l2.length ≤ c2) (h : gaps_Gaps.f a0 a1 l2 = some (r1, r2)) :
    Calls Try.prog 14 #[.int .i64 a0, .int .i64 a1, .slice A2 l2.length c2] w fun e w' => ∃ v0_ : Value, e = .returned (.tuple #[v0_, .int .i64 r2]) ∧ Kd.R k25 25 w' w.heap.size (fun _ => True) v0_ r1 ∧ Below w.heap.size w w' := by
  have hmf : ∀ (fn : Fn) (first cap : Array Value) (w : World), (Instr.makeFunc fn first cap).run Try.prog w = .ok (.func fn first cap) w := fun _ _ _ _ => rfl
  unfold gaps_Gaps.f at h
  have h := Option.some.inj h
  have HR2 := Aside0.mk hr2
  clear hr2 hc2
  by_cases he : gaps_edges a0 a1
  · rw [if_pos he] at h
    have HE := Aside0.mk he
    clear he
    cases hw : gaps_walk a1 [] a0 l2 with
    | some r =>
      rw [hw] at h
      simp only [Prod.mk.injEq] at h
      obtain ⟨rfl, rfl⟩ := h
      have HW := Aside0.mk hw
      clear hw
      go_enter Try.func14, Try.ntmps14
      go_wp2_with (go_at_call 23; refine (gaps_between.calls a0 a1 A2 c2 l2 w.heap.size w _ HR2.out HE.out (blk_new w _) (below_alloc (Below.refl _ _) _) (Nat.le_refl _)).mono ?_; intro e w2 hx; obtain ⟨rfl, ⟨v2, hg2, hr2⟩, hb2⟩ := hx; have HR := Aside0.mk (hr2 _ HW.out); have HB := Aside0.mk hb2; have hc2 : w2.cell? ⟨w.heap.size, 0, none⟩ = some v2 := (blk_cell hg2 0).trans rfl; rw [HW.out]; clear hr2 hb2 hg2)
      go_ret2
      exact ⟨v2, rfl, HR.out, HB.out⟩
    | none =>
      rw [hw] at h
      simp only [Prod.mk.injEq] at h
      obtain ⟨rfl, rfl⟩ := h
      have HW := Aside0.mk hw
      clear hw
      go_enter Try.func14, Try.ntmps14
      go_wp2_with (go_at_call 23; refine (gaps_between.calls a0 a1 A2 c2 l2 w.heap.size w _ HR2.out HE.out (blk_new w _) (below_alloc (Below.refl _ _) _) (Nat.le_refl _)).mono ?_; intro e w2 hx; obtain ⟨rfl, ⟨v2, hg2, hr2⟩, hb2⟩ := hx; have HB := Aside0.mk hb2; have hc2 : w2.cell? ⟨w.heap.size, 0, none⟩ = some v2 := (blk_cell hg2 0).trans rfl; rw [HW.out]; clear hr2 hb2 hg2)
      go_ret2
      exact ⟨_, rfl, Kd.R_nil _ _ _ _ _, HB.out⟩
  · rw [if_neg he] at h
    simp only [Prod.mk.injEq] at h
    obtain ⟨rfl, rfl⟩ := h
    have HE := Aside0.mk he
    clear he
    go_enter Try.func14, Try.ntmps14
    go_wp2_with (go_at_call 23; refine (gaps_between.no a0 a1 A2 c2 l2.length _ _ HE.out).mono ?_; rintro e w2 ⟨rfl, rfl⟩)
    go_ret2
    exact ⟨_, rfl, Kd.R_nil _ _ _ _ _, below_alloc (Below.refl _ _) _⟩
/-! ### gaps.Right: function 19 -/
theorem gaps_Right1.calls (at_ e_ : Int) (w : World) : Calls Try.prog 25 #[.int .i64 at_, .int .i64 e_] w fun e w' => e = .returned (.tuple #[]) ∧ w = w' := by
  go_enter Try.func25, Try.ntmps25
  go_wp2
  go_end0
  exact ⟨rfl, rfl⟩
set_option maxRecDepth 100000 in
set_option maxHeartbeats 4000000 in
theorem gaps_between.asks (fr tt : Int) (A2 : Option Addr) (c2 : Nat) (l2 : List S25) (w0 w : World) (hr2 : Kd.C k25 w0 A2 l2.length l2) (he : gaps_edges fr tt) (hB : Below w0.heap.size w0 w) :
    Calls Try.prog 23 #[.int .i64 fr, .int .i64 tt, .slice A2 l2.length c2, .func (.func 25) #[] #[]] w (fun e w' => e = .returned (.bool (gaps_walk tt [] fr l2).isSome) ∧ Below w0.heap.size w0 w') := by
  have hu := Try.underlying25
  obtain ⟨h1, h2, h3, h4, h5⟩ := he
  have e4 : (fr % 4 == 0) = true := beq_iff_eq.2 h4
  have e5 : (tt % 4 == 0) = true := beq_iff_eq.2 h5
  have HE4 := Aside0.mk e4
  have HE5 := Aside0.mk e5
  have HR2 := Aside0.mk hr2
  have HB := Aside0.mk hB
  clear e4 e5 hr2 hB h4 h5
  go_enter Try.func23, Try.ntmps23
  go_wp2_with (go_at_call 26; first | (refine (gaps_even.calls fr h1 _ HE4.out _).mono ?_; rintro e w' ⟨rfl, rfl⟩) | (refine (gaps_even.calls tt (by omega) _ HE5.out _).mono ?_; rintro e w' ⟨rfl, rfl⟩))
  go_loopw [9, 36] (fun x i wr => ∃ (k : Nat) (a : Int) (acc : List S25), i = .int .i64 k ∧ x = .int .i64 a ∧ gaps_At tt fr l2 acc k a ∧ Aside0 (Below w0.heap.size w0 wr)) (fun _ i _ => l2.length - (intOf i).toNat)
  case atStart => exact ⟨0, fr, [], rfl, rfl, ⟨by omega, h1, h2, by simp, by omega, rfl⟩, HB⟩
  case round =>
    obtain ⟨k, a, acc, rfl, rfl, HA, HB⟩ := hrel
    have ha := HA.ha
    have ha2 := HA.ha2
    have hl := HA.hl
    have hk4 := HA.h4
    by_cases hlt : k < l2.length
    · obtain ⟨ad, e_, hx0, hx1⟩ := at_T25 (Kd.C_below HR2.out HB.out) (k : Int) (by omega) (by omega)
      cases e_
      rw [Int.toNat_natCast] at hx0 hx1
      have HNX := Aside0.mk (fun hf => HA.next hlt hf)
      have HBD := Aside0.mk (fun hf => HA.bad hlt hf)
      clear HA
      generalize rd_T25 l2 (k : Int) = s at hx0 hx1 HNX HBD
      obtain ⟨s0, s1⟩ := s
      by_cases c1 : s0 < a
      · have HN := Aside0.mk (HBD.out (fun z => by have := z.1; simp only at this; omega))
        clear HNX HBD
        go_wp2
        go_ret
        rw [HN.out]
        exact ⟨rfl, below_alloc HB.out _⟩
      · by_cases c2 : tt < s0
        · have HN := Aside0.mk (HBD.out (fun z => by obtain ⟨z1, z2, z3, z4, z5, z6⟩ := z; simp only at z1 z2 z3 z4 z5 z6; omega))
          clear HNX HBD
          go_wp2
          go_ret
          rw [HN.out]
          exact ⟨rfl, below_alloc HB.out _⟩
        · by_cases c3 : s1 < 4
          · have HN := Aside0.mk (HBD.out (fun z => by obtain ⟨z1, z2, z3, z4, z5, z6⟩ := z; simp only at z1 z2 z3 z4 z5 z6; omega))
            clear HNX HBD
            go_wp2
            go_ret
            rw [HN.out]
            exact ⟨rfl, below_alloc HB.out _⟩
          · by_cases c4 : tt - s0 < s1
            · have HN := Aside0.mk (HBD.out (fun z => by obtain ⟨z1, z2, z3, z4, z5, z6⟩ := z; simp only at z1 z2 z3 z4 z5 z6; omega))
              clear HNX HBD
              go_wp2
              go_ret
              rw [HN.out]
              exact ⟨rfl, below_alloc HB.out _⟩
            · by_cases c5 : s0 % 4 = 0
              · by_cases c6 : s1 % 4 = 0
                · have HN := Aside0.mk (HNX.out ⟨by simp only; omega, by simp only; omega, by simp only; omega, by simp only; omega, c5, c6⟩)
                  have HV0 := Aside0.mk (show (s0 % 4 == 0) = true from beq_iff_eq.2 c5)
                  have HV1 := Aside0.mk (show (s1 % 4 == 0) = true from beq_iff_eq.2 c6)
                  clear HNX HBD c5 c6
                  have hk : k < 512 := by omega
                  have d1 : ¬ s0 < a := c1
                  go_wp2_with (first | (go_at_call 26; first | (refine (gaps_even.calls s0 (by omega) _ HV0.out _).mono ?_; rintro e w' ⟨rfl, rfl⟩) | (refine (gaps_even.calls s1 (by omega) _ HV1.out _).mono ?_; rintro e w' ⟨rfl, rfl⟩)) | (go_at_call 25; refine (gaps_Right1.calls a s0 _).mono ?_; rintro e w2 ⟨rfl, rfl⟩))
                  go_roundw
                  case rel => exact ⟨k + 1, s0 + s1, _, by go_num, rfl, HN.out, ⟨below_alloc HB.out _⟩⟩
                  case measure => simp [intOf]; omega
                · have HV0 := Aside0.mk (show (s0 % 4 == 0) = true from beq_iff_eq.2 c5)
                  have HV1 := Aside0.mk (show (s1 % 4 == 0) = false from beq_eq_false_iff_ne.2 c6)
                  have HN := Aside0.mk (HBD.out (fun z => by obtain ⟨z1, z2, z3, z4, z5, z6⟩ := z; simp only at z1 z2 z3 z4 z5 z6; omega))
                  clear HNX HBD
                  go_wp2_with (go_at_call 26; first | (refine (gaps_even.calls s0 (by omega) _ HV0.out _).mono ?_; rintro e w' ⟨rfl, rfl⟩) | (refine (gaps_even.calls s1 (by omega) _ HV1.out _).mono ?_; rintro e w' ⟨rfl, rfl⟩))
                  go_ret
                  rw [HN.out]
                  exact ⟨rfl, below_alloc HB.out _⟩
              · have HV0 := Aside0.mk (show (s0 % 4 == 0) = false from beq_eq_false_iff_ne.2 c5)
                have HN := Aside0.mk (HBD.out (fun z => by obtain ⟨z1, z2, z3, z4, z5, z6⟩ := z; simp only at z1 z2 z3 z4 z5 z6; omega))
                clear HNX HBD
                go_wp2_with (go_at_call 26; (refine (gaps_even.calls s0 (by omega) _ HV0.out _).mono ?_; rintro e w' ⟨rfl, rfl⟩))
                go_ret
                rw [HN.out]
                exact ⟨rfl, below_alloc HB.out _⟩
    · have HN := Aside0.mk (HA.done hlt)
      clear HA
      go_wp2_with (go_at_call 25; refine (gaps_Right1.calls a tt _).mono ?_; rintro e w2 ⟨rfl, rfl⟩)
      go_ret
      rw [HN.out]
      exact ⟨rfl, HB.out⟩
def gaps_Right.f (a0 a1 : Int) (l2 : List S25) : Option Bool :=
  some (if gaps_edges a0 a1 then (gaps_walk a1 [] a0 l2).isSome else false)
set_option maxRecDepth 100000 in
theorem gaps_Right.calls (a0 : Int) (a1 : Int) (A2 : Option Addr) (c2 : Nat) (l2 : List (S25)) (r : Bool) (w : World) (hr2 : Kd.C k25 w A2 l2.length l2) (hc2 : l2.length ≤ c2) (h : gaps_Right.f a0 a1 l2 = some r) :
    Calls Try.prog 19 #[.int .i64 a0, .int .i64 a1, .slice A2 l2.length c2] w fun e w' => e = .returned (.bool r) ∧ Below w.heap.size w w' := by
  unfold gaps_Right.f at h
  obtain rfl := Option.some.inj h
  have HR2 := Aside0.mk hr2
  clear hr2 hc2 h
  by_cases he : gaps_edges a0 a1
  · rw [if_pos he]
    have HE := Aside0.mk he
    clear he
    go_enter Try.func19, Try.ntmps19
    go_wp2_with (go_at_call 23; refine (gaps_between.asks a0 a1 A2 c2 l2 w _ HR2.out HE.out (Below.refl _ _)).mono ?_; rintro e w2 ⟨rfl, hb2⟩)
    go_ret
    exact ⟨rfl, hb2⟩
  · rw [if_neg he]
    have HE := Aside0.mk he
    clear he
    go_enter Try.func19, Try.ntmps19
    go_wp2_with (go_at_call 23; refine (gaps_between.no a0 a1 A2 c2 l2.length _ _ HE.out).mono ?_; rintro e w2 ⟨rfl, rfl⟩)
    go_ret
    exact ⟨rfl, Below.refl _ _⟩
end Go.Proofs.Ytcjalhlejneddaa.P
