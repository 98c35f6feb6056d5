/- pages.spots: where objects lie, one by one. -/
import Derived.RangeFuncNested
import Derived.RangeFuncBound
import Derived.RangeFuncCalls
import Derived.RangeFuncLeaves
import Derived.Shelf.Abstract
import Derived.Shelf.RegionOpen
import Derived.OwnWalkIn
import Derived.TacticsInMore
import Derived.LoopNIn
import Derived.LoopIn
import Derived.Test.YtlpkbekpdhaplaaEy
namespace Go.Proofs.Ytlpkbekpdhaplaa.P
open Go.RowKit Go.Shelf Go.Proofs.YtlpkbekpdhaplaaW.PrintWords Go.Proofs.YtlpkbekpdhaplaaW.PrintLast Go.Proofs.YtlpkbekpdhaplaaW.PrintMore
attribute [local go_sem] Oper.semAt_some
set_option linter.unusedVariables false
set_option linter.unusedSimpArgs false

/-- An object whose place an int holds. -/
abbrev ObjI := { o : S44 // -9223372036854775808 ≤ o.f0 ∧ o.f0 ≤ 9223372036854775807 }
/-- How many words a class' cell has. -/
def wordsOf (c : Int) : Int := rd [2, 3, 5, 7, 10, 15] c
def spotv (n a len : Int) : SpotT :=
  if a < 0 then (0, 0, false, 0, 0, false)
  else if 1 ≤ len ∧ len ≤ 120 then
    (if 4 ≤ a % 32 ∧ (a % 32 - 4) % wordsOf (class_of len) = 0 ∧ (a % 32 - 4) / wordsOf (class_of len) < 28 / wordsOf (class_of len) then (a / 32, 1, true, class_of len, (a % 32 - 4) / wordsOf (class_of len), decide (a / 32 < n))
     else (a / 32, 1, true, class_of len, 0, false))
  else if 120 < len ∧ len ≤ 2048 then (a / 32, (len + 255) / 256, false, 0, 0, decide (a % 32 = 0 ∧ a / 32 < n ∧ (len + 255) / 256 ≤ n - a / 32))
  else (a / 32, 0, false, 0, 0, false)
theorem class_of_in (n : Int) : 0 ≤ class_of n ∧ class_of n < 6 := by
  unfold class_of
  repeat' split
  all_goals decide
theorem wordsOf_in {c : Int} (h : 0 ≤ c) (h2 : c < 6) : 2 ≤ wordsOf c ∧ wordsOf c ≤ 15 := by
  have : c = 0 ∨ c = 1 ∨ c = 2 ∨ c = 3 ∨ c = 4 ∨ c = 5 := by omega
  rcases this with rfl | rfl | rfl | rfl | rfl | rfl <;> decide
theorem spotOf_is (n a len : Int) (hn : 0 ≤ n) (hn2 : n ≤ 64) (ha : -9223372036854775808 ≤ a) (ha2 : a ≤ 9223372036854775807) : pages_spotOf.f n a len = some (spotv n a len) := by
  unfold pages_spotOf.f spotv
  by_cases c1 : a < 0
  · rw [if_pos c1, if_pos c1]
  · rw [if_neg c1, if_neg c1]
    have hq : wrap64 (Int.tdiv a 32) = a / 32 := by rw [Int.tdiv_eq_ediv_of_nonneg (by omega)]; unfold wrap64; omega
    have hr : Int.tmod a 32 = a % 32 := Int.tmod_eq_emod_of_nonneg (by omega)
    rw [hq, hr]
    unfold class_Of.f
    by_cases c2 : 1 ≤ len ∧ len ≤ 120
    · rw [if_pos c2, if_pos c2]
      simp only [Option.bind_some]
      rw [if_pos trivial]
      have hc := class_of_in len
      unfold class_Which.f wordsOf
      rw [if_pos (by omega)]
      by_cases c3 : 4 ≤ a % 32 ∧ (a % 32 - 4) % rd [2, 3, 5, 7, 10, 15] (class_of len) = 0 ∧ (a % 32 - 4) / rd [2, 3, 5, 7, 10, 15] (class_of len) < 28 / rd [2, 3, 5, 7, 10, 15] (class_of len)
      · rw [if_pos ⟨hc, c3⟩, if_pos c3]
        rfl
      · rw [if_neg (fun z => c3 z.2), if_neg c3]
        rfl
    · rw [if_neg c2, if_neg c2]
      simp only [Option.bind_some]
      rw [if_neg (by decide)]
      unfold class_Pages.f class_largest.f
      simp only [Option.bind_some]
      by_cases c3 : 120 < len ∧ len ≤ 2048
      · rw [if_pos c3, if_neg (by omega), if_neg (by omega)]
        have hw : wrap64 (Int.tdiv (wrap64 (wrap64 (len + 256) - 1)) 256) = (len + 255) / 256 := by
          have e1 : wrap64 (len + 256) = len + 256 := by unfold wrap64; omega
          have e2 : wrap64 (len + 256 - 1) = len + 255 := by unfold wrap64; omega
          rw [e1, e2, Int.tdiv_eq_ediv_of_nonneg (by omega)]
          unfold wrap64; omega
        rw [hw]
        simp only [Option.bind_some]
        rw [if_pos trivial]
        by_cases c4 : a % 32 = 0
        · rw [if_pos c4]
          by_cases c5 : a / 32 < n
          · rw [if_pos c5]
            have e3 : wrap64 (n - a / 32) = n - a / 32 := by unfold wrap64; omega
            rw [e3]
            by_cases c6 : (len + 255) / 256 ≤ n - a / 32
            · rw [decide_eq_true c6, decide_eq_true ⟨c4, c5, c6⟩]
            · rw [decide_eq_false c6, decide_eq_false (fun z => c6 z.2.2)]
          · rw [if_neg c5, decide_eq_false (fun z => c5 z.2.1)]
        · rw [if_neg c4, decide_eq_false (fun z => c4 z.1)]
      · rw [if_neg c3]
        by_cases c4 : len ≤ 120
        · rw [if_pos c4]
          simp only [Option.bind_some]
          rw [if_neg (by decide)]
        · rw [if_neg c4, if_pos (by omega)]
          simp only [Option.bind_some]
          rw [if_neg (by decide)]
theorem spotv_in (n a len : Int) (hn : 0 ≤ n) (hn2 : n ≤ 64) (h : (spotv n a len).2.2.2.2.2 = true) : SpotIn (spotv n a len) n.toNat := by
  unfold spotv at h ⊢
  by_cases c1 : a < 0
  · rw [if_pos c1] at h; cases h
  · rw [if_neg c1] at h ⊢
    by_cases c2 : 1 ≤ len ∧ len ≤ 120
    · rw [if_pos c2] at h ⊢
      have hc := class_of_in len
      have hw := wordsOf_in hc.1 hc.2
      generalize class_of len = c at h hc hw ⊢
      generalize wordsOf c = ww at h hw ⊢
      by_cases c3 : 4 ≤ a % 32 ∧ (a % 32 - 4) % ww = 0 ∧ (a % 32 - 4) / ww < 28 / ww
      · rw [if_pos c3] at h ⊢
        have h1 : a / 32 < n := of_decide_eq_true h
        have h2 : 0 ≤ (a % 32 - 4) / ww := Int.ediv_nonneg (by omega) (by omega)
        have h3 : 28 / ww ≤ 28 / 2 := by
          have : 28 / ww ≤ 14 := Int.ediv_le_of_le_mul (by omega) (by omega)
          omega
        exact ⟨by show 0 ≤ a / 32; omega, by show a / 32 < _; omega, by show (0 : Int) ≤ 1; omega, by show a / 32 + 1 ≤ _; omega, h2, by show (a % 32 - 4) / ww < 64; omega, hc.1⟩
      · rw [if_neg c3] at h; cases h
    · rw [if_neg c2] at h ⊢
      by_cases c3 : 120 < len ∧ len ≤ 2048
      · rw [if_pos c3] at h ⊢
        obtain ⟨h1, h2, h3⟩ : a % 32 = 0 ∧ a / 32 < n ∧ (len + 255) / 256 ≤ n - a / 32 := of_decide_eq_true h
        exact ⟨by show 0 ≤ a / 32; omega, by show a / 32 < _; omega, by show 0 ≤ (len + 255) / 256; omega, by show a / 32 + (len + 255) / 256 ≤ _; omega, by show (0 : Int) ≤ 0; omega, by show (0 : Int) < 64; omega, by show (0 : Int) ≤ 0; omega⟩
      · rw [if_neg c3] at h; cases h
def encO (n : Int) (x : ObjI) : Array Value := #[encS (spotv n x.1.f0 x.1.f1), .bool (spotv n x.1.f0 x.1.f1).2.2.2.2.2]
/-- What a round keeps for the iterator: what lay when the call began, and the two boxes. -/
structure KpI (m gl gp : Nat) (W W' : World) : Prop where
  below : Below m W W'
  l : W'.heap[gl]? = W.heap[gl]?
  p : W'.heap[gp]? = W.heap[gp]?
theorem KpI.trans {m gl gp : Nat} {A B C : World} (h : KpI m gl gp A B) (k : KpI m gl gp B C) : KpI m gl gp A C := ⟨h.below.trans k.below, k.l.trans h.l, k.p.trans h.p⟩
theorem KpI.book {m gl gp : Nat} {w : World} (hm : m ≤ w.heap.size) (hl : gl < w.heap.size) (hp : gp < w.heap.size) (W : World) (l : Nat) (o o' : Obj) (h1 : w.heap.size ≤ l) (h2 : W.heap[l]? = some o) (h3 : o.isCells = false) (h4 : o.isWalk = false) : KpI m gl gp W (W.putObj l o') :=
  ⟨belowK_b hm W l o o' h1 h2 h3 h4, World.putObj_heap_other (by omega), World.putObj_heap_other (by omega)⟩
theorem map_val {xs : List ObjI} {k : Nat} (h : k < xs.length) : rd_T44 (xs.map (·.1)) (k : Int) = (xs[k]).1 := by
  unfold rd_T44
  rw [Int.toNat_natCast, List.getD_eq_getElem?_getD, List.getElem?_map, List.getElem?_eq_getElem h]
  rfl
set_option maxRecDepth 100000 in
set_option maxHeartbeats 1000000 in
theorem spots1_in (m : Nat) (hm : 1 ≤ m) (l gl gp : Nat) (w0 : World) (A : Option Addr) (c : Nat) (n : Int) (hn : 0 ≤ n) (hn2 : n ≤ 64) (xs : List ObjI) (J Jx : List ObjI → World → Prop) (B : Nat)
    (hC : Kd.C k44 w0 A xs.length (xs.map (·.1)))
    (hJ : AbidesFrom B J)
    (hY : ∀ pre x W1, J pre W1 → pre.length < xs.length → YieldAt Fence.wide (m - 1) Try.prog l (encO n x) W1 fun e W' => (e = .returned (.bool true) ∧ J (pre ++ [x]) W' ∧ KpI w0.heap.size gl gp W1 W') ∨ (e = .returned (.bool false) ∧ Jx (pre ++ [x]) W'))
    (W : World) (hB : Below w0.heap.size w0 W) (hgl : W.heap[gl]? = some (.cells #[.slice A xs.length c] 39 (0, 0))) (hgp : W.heap[gp]? = some (.cells #[.int .i64 n] 3 (0, 0))) (h0 : J [] W) :
    CallsIn Fence.wide m Try.prog 51 #[.func (.yield l) #[] #[], .pointer (some ⟨gl, 0, none⟩), .pointer (some ⟨gp, 0, none⟩)] W fun e W' => (∃ v, e = .returned v) ∧ ((∃ ys, ys = xs ∧ J ys W') ∨ (∃ pre, pre <+: xs ∧ Jx pre W')) := by
  have hu := Try.underlying44
  have hl0 : W.cell? ⟨gl, 0, none⟩ = some (.slice A xs.length c) := (blk_cell hgl 0).trans rfl
  have hxl : xs.length ≤ 9223372036854775807 := hC.2.1
  have HC := Aside0.mk hC
  have HB := Aside0.mk hB
  have HGL := Aside0.mk hgl
  have HGP := Aside0.mk hgp
  have HJ := Aside0.mk hJ
  have HY := Aside0.mk hY
  have H0 := Aside0.mk h0
  clear hC hB hgl hgp hJ hY h0
  refine callsIn_of_wp Try.func51 rfl trivial ?_ rfl
  simp only [Try.ntmps51, List.size_toArray, List.length_cons, List.length_nil, Nat.reduceAdd, Nat.reduceSub, Array.replicate_succ, Array.replicate_zero, List.push_toArray, List.append_toArray, List.nil_append, List.cons_append]
  gi_wp2
  gi_loopw [8] (fun v8 wr => ∃ k : Nat, v8 = .int .i64 k ∧ k ≤ xs.length ∧ Aside0 (J (xs.take k) wr) ∧ Aside0 (Below w0.heap.size w0 wr) ∧ Aside0 (wr.heap[gl]? = some (.cells #[.slice A xs.length c] 39 (0, 0))) ∧ Aside0 (wr.heap[gp]? = some (.cells #[.int .i64 n] 3 (0, 0)))) (fun v8 _ => xs.length - (intOf v8).toNat)
  case atStart => exact ⟨0, rfl, Nat.zero_le _, H0, HB, HGL, HGP⟩
  case round =>
    obtain ⟨k, rfl, hk, HJr, HBr, HLr, HPr⟩ := hrel
    by_cases hlt : k < xs.length
    · obtain ⟨ad, e_, hx0, hx1⟩ := at_T44 (Kd.C_below HC.out HBr.out) (k : Int) (by omega) (by omega)
      cases e_
      rw [Int.toNat_natCast, map_val hlt] at hx0 hx1
      have hp0 : wr.cell? ⟨gp, 0, none⟩ = some (.int .i64 n) := (blk_cell HPr.out 0).trans rfl
      have hgpl := blk_lt HPr.out
      have HTK := Aside0.mk (List.take_succ_eq_append_getElem hlt)
      have hrng := (xs[k]).2
      obtain ⟨⟨r1, r2, r3, r4, r5, r6⟩, hsp⟩ : ∃ s, spotv n (xs[k]).1.f0 (xs[k]).1.f1 = s := ⟨_, rfl⟩
      have HSP := Aside0.mk ((spotOf_is n (xs[k]).1.f0 (xs[k]).1.f1 hn hn2 hrng.1 hrng.2).trans (congrArg some hsp))
      have HEN := Aside0.mk (show encO n xs[k] = #[.agg #[.int .i64 r1, .int .i64 r2, .bool r3, .int .i64 r4, .int .i64 r5], .bool r6] by unfold encO encS; rw [hsp])
      have HLT := Aside0.mk (show (xs.take k).length < xs.length by rw [List.length_take]; omega)
      clear hsp hrng
      generalize hxk : xs[k] = x at hx0 hx1 HTK HSP HEN
      obtain ⟨⟨o0, o1⟩, ho⟩ := x
      simp only at hx0 hx1 HSP
      clear hxk
      gi_wp2_with (refine ⟨trivial, ?_⟩; gi_at_call 52; refine (callsIn_wide.2 (pages_spotOf.calls n o0 o1 r1 r2 r3 r4 r5 r6 _ HSP.out)).mono ?_; rintro e w2 ⟨rfl, hb⟩; have hbw := below_step (below_alloc (Below.refl wr.heap.size wr) _) hb; obtain ⟨fn, tmps, assign, body, hy, hR⟩ := HY.out _ _ w2 (HJ.out _ _ _ none HJr.out (grown_of_below hbw none) (fun r e => by cases e)) HLT.out; rw [HEN.out] at hy; have HBW := Aside0.mk hbw; clear hb hbw)
      refine hR.mono ?_
      rintro e W3 (⟨rfl, hJ3, hk3⟩ | ⟨rfl, hJx3⟩)
      · gi_wp2
        go_roundw
        case rel =>
          refine ⟨k + 1, by go_num, hlt, ⟨by rw [HTK.out]; exact hJ3⟩, ⟨(below_step HBr.out HBW.out).trans hk3.below⟩, ⟨hk3.l.trans ((HBW.out.block _ (blk_lt HLr.out)).trans HLr.out)⟩, ⟨hk3.p.trans ((HBW.out.block _ (blk_lt HPr.out)).trans HPr.out)⟩⟩
        case measure => simp [intOf]; omega
      · gi_wp2
        refine bodyPost_ret (results_none rfl _ _ _) rfl ?_
        refine ⟨⟨_, rfl⟩, .inr ⟨_, ?_, hJx3⟩⟩
        rw [← HTK.out]
        exact List.take_prefix _ _
    · gi_wp2
      go_end0
      refine ⟨⟨_, rfl⟩, .inl ⟨xs, rfl, ?_⟩⟩
      have h := HJr.out
      rw [List.take_of_length_le (by omega)] at h
      exact h
/-- The iterator's contract. -/
theorem spots_stops (m : Nat) (hm : 1 ≤ m) (gl gp : Nat) (w0 : World) (A : Option Addr) (c : Nat) (n : Int) (hn : 0 ≤ n) (hn2 : n ≤ 64) (xs : List ObjI) (hC : Kd.C k44 w0 A xs.length (xs.map (·.1))) (w : World) (hB : Below w0.heap.size w0 w)
    (hgl : w.heap[gl]? = some (.cells #[.slice A xs.length c] 39 (0, 0))) (hgp : w.heap[gp]? = some (.cells #[.int .i64 n] 3 (0, 0))) :
    SeqStopsK Fence.wide m Try.prog 51 #[.pointer (some ⟨gl, 0, none⟩), .pointer (some ⟨gp, 0, none⟩)] (encO n) (KpI w0.heap.size gl gp) (fun ys => ys = xs) (fun pre => pre <+: xs) xs.length w :=
  fun l J Jx W hW hJ _ hY h0 => spots1_in m hm l gl gp w0 A c n hn hn2 xs J Jx _ hC hJ hY W (hB.trans (hW.mono hB.size)) ((hW.block _ (blk_lt hgl)).trans hgl) ((hW.block _ (blk_lt hgp)).trans hgp) h0
set_option maxRecDepth 100000 in
theorem spots_calls (n : Int) (A : Option Addr) (len c : Nat) (w : World) :
    Calls Try.prog 49 #[.int .i64 n, .slice A len c] w fun e w' => e = .returned (.func (.func 51) #[] #[.pointer (some ⟨w.heap.size + 1, 0, none⟩), .pointer (some ⟨w.heap.size, 0, none⟩)]) ∧ w' = (w.alloc (.cells #[.int .i64 n] 3)).alloc (.cells #[.slice A len c] 39) := by
  have hmf : ∀ (fn : Fn) (first cap : Array Value) (w : World), (Instr.makeFunc fn first cap).run Try.prog w = .ok (.func fn first cap) w := fun _ _ _ _ => rfl
  go_enter Try.func49, Try.ntmps49
  go_wp2
  go_ret
  exact ⟨rfl, rfl⟩
end Go.Proofs.Ytlpkbekpdhaplaa.P
