/- What roots.place and slices.Clone (at roots) return, whatever roots they are called with. -/
import Derived.Test.YtlhemachmidoaaaDoorP0
import Derived.WalkSpells
import Derived.WalkSmall
import Derived.Lib.SliceRun
import Derived.LoopTactic
import Derived.Outline
namespace Go.Proofs.YtlhemachmidoaaaDoor.P
open Go.RowKit Go.Proofs.YtlhemachmidoaaaDoorW.PrintWords Go.Proofs.YtlhemachmidoaaaDoorW.PrintLast Go.Proofs.YtlhemachmidoaaaDoorW.PrintMore
set_option linter.unusedVariables false
set_option linter.unusedSimpArgs false

/-! ### the closure of roots.place: function 62 -/
theorem roots_place1.calls (n s : ByteArray) (i j : Int) (b : Bool) (hb : (n.toList == s.toList) = b) (g : Nat) (w : World) (hg : w.heap[g]? = some (.cells #[.string s] 9 (0, 0))) :
    Calls Tryd.prog 62 #[.agg #[.string n, .int .i64 i, .int .i64 j], .pointer (some ⟨g, 0, none⟩)] w fun e w' => e = .returned (.bool b) ∧ Below w.heap.size w w' := by
  have hu := Tryd.underlying56
  have hc0 : w.cell? ⟨g, 0, none⟩ = some (.string s) := (blk_cell hg 0).trans rfl
  have hlt := blk_lt hg
  clear hg
  go_enter Tryd.func62, Tryd.ntmps62
  go_wp2
  go_ret
  exact ⟨rfl, below_alloc (Below.refl _ _) _⟩
/-! ### roots.first: function 61; roots.place: function 47 -/
def named (s : ByteArray) (x : S56) : Bool := x.f0.toList == s.toList
def place_of (l : List S56) (s : ByteArray) : Int := match l.findIdx? (named s) with | some k => (k : Int) | none => -1
structure NoneAhead (l : List S56) (s : ByteArray) (k : Nat) : Prop where
  hk : k ≤ l.length
  h : ∀ x ∈ l.take k, named s x = false
theorem take_rd {l : List S56} {k : Nat} (h : k < l.length) : l.take (k + 1) = l.take k ++ [rd_T56 l k] := by
  rw [List.take_succ_eq_append_getElem h]
  congr 2
  unfold rd_T56
  rw [Int.toNat_natCast, List.getD_eq_getElem?_getD, List.getElem?_eq_getElem h]
  rfl
theorem NoneAhead.next {l : List S56} {s : ByteArray} {k : Nat} (h : NoneAhead l s k) (hk : k < l.length) (hn : named s (rd_T56 l k) = false) : NoneAhead l s (k + 1) := by
  refine ⟨hk, fun x hx => ?_⟩
  rw [take_rd hk] at hx
  rcases List.mem_append.1 hx with hx | hx
  · exact h.h x hx
  · rw [List.mem_singleton.1 hx]; exact hn
theorem NoneAhead.hit {l : List S56} {s : ByteArray} {k : Nat} (h : NoneAhead l s k) (hk : k < l.length) (hn : named s (rd_T56 l k) = true) : place_of l s = (k : Int) := by
  unfold place_of
  have hx : rd_T56 l k = l[k] := by unfold rd_T56; rw [Int.toNat_natCast, List.getD_eq_getElem?_getD, List.getElem?_eq_getElem hk]; rfl
  have : l.findIdx? (named s) = some k := by
    rw [List.findIdx?_eq_some_iff_getElem]
    refine ⟨hk, by rw [← hx]; exact hn, fun j hj => ?_⟩
    have hm : l[j] ∈ l.take k := by
      rw [List.mem_take_iff_getElem]
      exact ⟨j, by omega, rfl⟩
    simpa using h.h _ hm
  rw [this]
theorem NoneAhead.done {l : List S56} {s : ByteArray} {k : Nat} (h : NoneAhead l s k) (hk : ¬ k < l.length) : place_of l s = -1 := by
  unfold place_of
  have : l.findIdx? (named s) = none := by
    rw [List.findIdx?_eq_none_iff]
    intro x hx
    have := h.h x (by rw [List.take_of_length_le (by omega)]; exact hx)
    simpa using this
  rw [this]
set_option maxRecDepth 100000 in
theorem roots_first.calls (A0 : Option Addr) (c0 : Nat) (l0 : List (S56)) (s : ByteArray) (g : Nat) (w0 w : World) (hr0 : Kd.C k56 w0 A0 l0.length l0) (hg : w.heap[g]? = some (.cells #[.string s] 9 (0, 0))) (hB : Below w0.heap.size w0 w) (hge : w0.heap.size ≤ g) :
    Calls Tryd.prog 61 #[.slice A0 l0.length c0, .func (.func 62) #[] #[.pointer (some ⟨g, 0, none⟩)]] w fun e w' => e = .returned (.int .i64 (place_of l0 s)) ∧ Below w0.heap.size w0 w' := by
  have hu := Tryd.underlying56
  have HG := Aside0.mk hg
  have HR0 := Aside0.mk hr0
  have HB := Aside0.mk hB
  have hll := hr0.2.1
  clear hg hr0 hB
  go_enter Tryd.func61, Tryd.ntmps61
  go_wp2
  go_loopw [9] (fun i wr => ∃ k : Nat, i = .int .i64 k ∧ Aside0 (NoneAhead l0 s k) ∧ Aside0 (wr.heap[g]? = some (.cells #[.string s] 9 (0, 0))) ∧ Aside0 (Below w0.heap.size w0 wr)) (fun i _ => l0.length - (intOf i).toNat)
  case atStart => exact ⟨0, rfl, ⟨by omega, by simp⟩, HG, HB⟩
  case round =>
    obtain ⟨k, rfl, HN, HG, HB⟩ := hrel
    have hk := HN.out.hk
    by_cases hlt : k < l0.length
    · obtain ⟨ad, e_, hx0, hx1, hx2⟩ := at_T56 (Kd.C_below HR0.out HB.out) (k : Int) (by omega) (by omega)
      cases e_
      rw [Int.toNat_natCast] at hx0 hx1 hx2
      cases hn : named s (rd_T56 l0 k) with
      | true =>
        have HE := Aside0.mk (HN.out.hit hlt hn)
        have HM := Aside0.mk (show ((rd_T56 l0 k).f0.toList == s.toList) = true from hn)
        clear hn HN
        generalize rd_T56 l0 (k : Int) = x at hx0 hx1 hx2 HM
        go_wp2_with (go_at_call 62; refine (roots_place1.calls x.f0 s _ _ true HM.out g _ (blk_alloc HG.out _)).mono ?_; rintro e w2 ⟨rfl, hb2⟩; have HB2 := Aside0.mk ((below_alloc HB.out _).trans (hb2.mono (below_size (below_alloc HB.out _)))); clear hb2)
        go_ret
        exact ⟨by rw [HE.out]; rfl, HB2.out⟩
      | false =>
        have HE := Aside0.mk (HN.out.next hlt hn)
        have HM := Aside0.mk (show ((rd_T56 l0 k).f0.toList == s.toList) = false from hn)
        clear hn HN
        generalize rd_T56 l0 (k : Int) = x at hx0 hx1 hx2 HM
        go_wp2_with (go_at_call 62; refine (roots_place1.calls x.f0 s _ _ false HM.out g _ (blk_alloc HG.out _)).mono ?_; rintro e w2 ⟨rfl, hb2⟩; have HB2 := Aside0.mk ((below_alloc HB.out _).trans (hb2.mono (below_size (below_alloc HB.out _)))); have HG2 := Aside0.mk (blk_below (blk_alloc HG.out _) hb2); clear hb2)
        go_roundw
        case rel => exact ⟨k + 1, by go_num, HE, HG2, HB2⟩
        case measure => simp [intOf]; omega
    · have HE := Aside0.mk (HN.out.done hlt)
      clear HN
      go_wp2
      go_ret
      exact ⟨by rw [HE.out]; rfl, HB.out⟩
def roots_place.f (l0 : List (S56)) (a1 : ByteArray) : Option Int := some (place_of l0 a1)
set_option maxRecDepth 100000 in
theorem roots_place.calls (A0 : Option Addr) (c0 : Nat) (l0 : List (S56)) (a1 : ByteArray) (r : Int) (w : World) (hr0 : Kd.C k56 w A0 l0.length l0) (hc0 : l0.length ≤ c0) (h : roots_place.f l0 a1 = some r) :
    Calls Tryd.prog 47 #[.slice A0 l0.length c0, .string a1] w fun e w' => e = .returned (.int .i64 r) ∧ Below w.heap.size w w' := by
  have hmf : ∀ (fn : Fn) (first cap : Array Value) (w : World), (Instr.makeFunc fn first cap).run Tryd.prog w = .ok (.func fn first cap) w := fun _ _ _ _ => rfl
  unfold roots_place.f at h
  obtain rfl := Option.some.inj h
  have HR0 := Aside0.mk hr0
  clear h hr0 hc0
  go_enter Tryd.func47, Tryd.ntmps47
  go_wp2_with (go_at_call 61; refine (roots_first.calls A0 c0 l0 a1 w.heap.size w _ HR0.out (blk_new w _) (below_alloc (Below.refl _ _) _) (Nat.le_refl _)).mono ?_; rintro e w2 ⟨rfl, hb2⟩)
  go_ret
  exact ⟨rfl, hb2⟩
/-! ### slices.Clone of roots: function 66 -/
def api_Root.f (l0 : List (S56)) : Option (List S56) := if l0.length < 4398046511104 then some l0 else none
set_option maxRecDepth 100000 in
theorem api_Root.calls (A0 : Option Addr) (c0 : Nat) (l0 : List (S56)) (r : List (S56)) (w : World) (hr0 : Kd.C k56 w A0 l0.length l0) (hc0 : l0.length ≤ c0) (h : api_Root.f l0 = some r) :
    Calls Tryd.prog 66 #[.slice A0 l0.length c0] w fun e w' => ∃ v0_ : Value, e = .returned v0_ ∧ Kd.R k56 56 w' w.heap.size (fun _ => True) v0_ r ∧ Below w.heap.size w w' := by
  unfold api_Root.f at h
  split at h
  · rename_i hlim
    obtain rfl := Option.some.inj h
    have HR0 := Aside0.mk hr0
    have hll := hr0.2.1
    cases A0 with
    | none =>
      have hl0 : l0 = [] := by
        cases l0 with
        | nil => rfl
        | cons x l0 => obtain ⟨ad, e, _⟩ := hr0.2.2 (by simp); cases e
      subst hl0
      have hnil := fun w : World => Lib.run_eql_slice_nil (P := Tryd.prog) w 36 56 none 0 c0 0 0 Tryd.underlying36
      clear hr0 hc0 h
      go_enter Tryd.func66, Tryd.ntmps66
      go_wp2
      go_ret
      exact ⟨_, rfl, Kd.R_nil _ _ _ _ _, Below.refl _ _⟩
    | some ad =>
      have hnil := fun w : World => Lib.run_eql_slice_nil (P := Tryd.prog) w 36 56 (some ad) l0.length c0 0 0 Tryd.underlying36
      clear hr0 hc0 h
      have HB := Aside0.mk (Below.refl w.heap.size w)
      go_enter Tryd.func66, Tryd.ntmps66
      go_wp2_with (first | ((with_reducible refine gate_dst (N := 5) rfl ?_); refine Kd.R_lit k56 _ 56 ?hg (N := 5) ?hd (xs := ([] : List (S56))) (inner := []) (ok := fun _ => True) (okp := fun _ => True) ?hr ?hp (fun _ hk => hk) trivial (Below.refl _ _) (Nat.le_refl _) (by simp) ?_; (case hd => rfl); (case hg => rfl); (case hr => first | (go_simp; done) | (go_simp; rfl)); (case hp => exact (Reps.none _ _)); intro v1 w1 ho hb hg_ hnew_; clear hg_ hnew_; have HO := Aside0.mk ho; have HB1 := Aside0.mk hb; clear ho hb) | ((with_reducible refine gate_builtin (b := .append) (xs := #[.tmp 5, .tmp 6]) rfl ?_); at_builtin; refine Kd.R_append_rows k56 (w0 := w) w.heap.size rfl (.tmp 5) (.tmp 6) 36 56 (.agg #[(.string ⟨#[]⟩), (.int .i64 0), (.int .i64 0)]) 32 rfl Tryd.underlying36 info56 rfl (by decide) (by omega) v1 [] l0 _ _ _ (fun _ => True) (fun _ => False) rfl rfl ?aO ?aR (fun _ _ h => h) (fun _ h => h.elim) ?aF ?aB ?aS ?aL ?_; (case aR => exact (Kd.C_below HR0.out HB1.out)); (case aB => exact HB1.out); (case aF => exact (fun _ _ => trivial)); (case aO => exact HO.out); (case aS => exact (below_size HB1.out)); (case aL => simp; omega); intro v2 w2 ho2 hb2 hg2 hat2; rw [List.nil_append] at ho2; have HO2 := Aside0.mk ho2; have HB2 := Aside0.mk hb2; clear ho2 hb2 hg2 hat2))
      go_ret
      exact ⟨_, rfl, HO2.out, HB2.out⟩
  · cases h
end Go.Proofs.YtlhemachmidoaaaDoor.P
