/- Roots stay right when an entry is written, and the other names keep their handles: plain lists. -/
import Derived.Test.YtlhemachmidoaaaR4
namespace Go.Proofs.Ytlhemachmidoaaa.Pure
open Go.RowKit Go.Proofs.Ytlhemachmidoaaa.P Go.Proofs.Ytlhemachmidoaaa.Open Go.Proofs.YtlhemachmidoaaaW.PrintWords Go.Proofs.YtlhemachmidoaaaW.PrintLast
set_option linter.unusedVariables false
set_option linter.unusedSimpArgs false

def Good (l : List S37) : Prop := ∀ i (hi : i < l.length), root_zero l[i] = true ∨ (names_right l[i].f0 = true ∧ handle_ok l[i].f1.f0 l[i].f1.f1 = true ∧ ∀ j (hj : j < i), l[j].f0.toList ≠ l[i].f0.toList)
theorem rd_get {l : List S37} {i : Nat} (h : i < l.length) : rd_T37 l i = l[i] := by
  unfold rd_T37
  rw [Int.toNat_natCast, List.getD_eq_getElem?_getD, List.getElem?_eq_getElem h]
  rfl
theorem place_none {l : List S37} {s : ByteArray} : place_of l s < 0 ↔ ∀ x ∈ l, named s x = false := by
  unfold place_of
  cases h : l.findIdx? (named s) with
  | none =>
    have := List.findIdx?_eq_none_iff.1 h
    exact ⟨fun _ x hx => by simpa using this x hx, fun _ => by decide⟩
  | some k =>
    obtain ⟨hk, h1, h2⟩ := List.findIdx?_eq_some_iff_getElem.1 h
    refine ⟨fun h3 => by simp at h3; omega, fun h3 => ?_⟩
    rw [h3 _ (List.getElem_mem hk)] at h1
    cases h1
theorem place_at {l : List S37} {s : ByteArray} {q : Nat} (hq : q < l.length) (h1 : named s l[q] = true) (h2 : ∀ j (hj : j < q), named s l[j] = false) : place_of l s = (q : Int) := by
  unfold place_of
  have : l.findIdx? (named s) = some q := by
    rw [List.findIdx?_eq_some_iff_getElem]
    exact ⟨hq, h1, fun j hj => by rw [h2 j hj]; simp⟩
  rw [this]
theorem place_some {l : List S37} {s : ByteArray} (h : ¬ place_of l s < 0) : ∃ q, ∃ hq : q < l.length, place_of l s = (q : Int) ∧ named s l[q] = true ∧ ∀ j (hj : j < q), named s l[j] = false := by
  unfold place_of at h ⊢
  cases hf : l.findIdx? (named s) with
  | none => rw [hf] at h; exact absurd (by decide) h
  | some k =>
    obtain ⟨hk, h1, h2⟩ := List.findIdx?_eq_some_iff_getElem.1 hf
    exact ⟨k, hk, rfl, h1, fun j hj => by simpa using h2 j hj⟩
theorem all_ok_iff : ∀ (l pre : List S37), all_ok pre l = true ↔ ∀ i (hi : i < l.length), root_ok (pre ++ l.take i) l[i] = true := by
  intro l
  induction l with
  | nil => intro pre; simp [all_ok]
  | cons r t ih =>
    intro pre
    rw [all_ok, Bool.and_eq_true, ih]
    constructor
    · rintro ⟨h1, h2⟩ i hi
      cases i with
      | zero => simpa using h1
      | succ i => simpa using h2 i (by simpa using hi)
    · intro h
      refine ⟨?_, fun i hi => ?_⟩
      · have := h 0 (by simp)
        rw [List.take_zero, List.append_nil] at this
        exact this
      · have := h (i + 1) (by simpa using hi)
        rw [List.take_succ_cons] at this
        rw [List.append_assoc]
        exact this
theorem good_iff (l : List S37) : roots_right l = true ↔ Good l ∧ len_ok l.length = true := by
  unfold roots_right
  rw [Bool.and_eq_true, all_ok_iff]
  refine and_congr_left fun _ => ?_
  unfold Good
  refine forall_congr' fun i => forall_congr' fun hi => ?_
  unfold root_ok
  rw [Bool.or_eq_true, Bool.and_eq_true, Bool.and_eq_true, decide_eq_true_iff, List.nil_append, place_none]
  refine or_congr Iff.rfl (and_congr Iff.rfl (and_congr Iff.rfl ?_))
  constructor
  · intro h j hj he
    have := h l[j] (by rw [List.mem_take_iff_getElem]; exact ⟨j, by omega, rfl⟩)
    unfold named at this
    rw [beq_iff_eq.2 he] at this
    cases this
  · intro h x hx
    rw [List.mem_take_iff_getElem] at hx
    obtain ⟨j, hj, rfl⟩ := hx
    exact beq_eq_false_iff_ne.2 (h j (by omega))
theorem zero_name {r : S37} (h : root_zero r = true) : r.f0.toList = [] := by
  unfold root_zero at h
  rw [Bool.and_eq_true] at h
  exact List.isEmpty_iff.1 h.1
theorem right_name {s : ByteArray} (h : names_right s = true) : s.toList ≠ [] := by
  intro he
  rw [names_empty s he] at h
  cases h
/-- Two entries of one name that is not empty are one entry. -/
theorem one_place {l : List S37} (hg : Good l) {s : ByteArray} (hs : s.toList ≠ []) {i j : Nat} (hi : i < l.length) (hj : j < l.length) (h1 : named s l[i] = true) (h2 : named s l[j] = true) : i = j := by
  have e1 : l[i].f0.toList = s.toList := beq_iff_eq.1 h1
  have e2 : l[j].f0.toList = s.toList := beq_iff_eq.1 h2
  rcases Nat.lt_trichotomy i j with h | h | h
  · exfalso
    rcases hg j hj with hz | hz
    · exact hs (e2.symm.trans (zero_name hz))
    · exact hz.2.2 i h (e1.trans e2.symm)
  · exact h
  · exfalso
    rcases hg i hi with hz | hz
    · exact hs (e1.symm.trans (zero_name hz))
    · exact hz.2.2 j h (e2.trans e1.symm)
/-- An entry is overwritten by one that is zero, or right and of a new name. -/
theorem good_set {l : List S37} (hg : Good l) (q : Nat) (r : S37) (hr : root_zero r = true ∨ (names_right r.f0 = true ∧ handle_ok r.f1.f0 r.f1.f1 = true ∧ ∀ j (hj : j < l.length), j ≠ q → l[j].f0.toList ≠ r.f0.toList)) : Good (l.set q r) := by
  intro i hi
  rw [List.length_set] at hi
  by_cases hiq : q = i
  · subst hiq
    rw [List.getElem_set_self]
    rcases hr with h | ⟨h1, h2, h3⟩
    · exact Or.inl h
    · refine Or.inr ⟨h1, h2, fun j hj => ?_⟩
      rw [List.getElem_set_ne (by omega)]
      exact h3 j (by omega) (by omega)
  · rw [List.getElem_set_ne hiq]
    rcases hg i hi with h | ⟨h1, h2, h3⟩
    · exact Or.inl h
    · refine Or.inr ⟨h1, h2, fun j hj => ?_⟩
      by_cases hjq : q = j
      · subst hjq
        rw [List.getElem_set_self]
        rcases hr with h | ⟨_, _, h5⟩
        · rw [zero_name h]
          exact fun h => right_name h1 h.symm
        · exact fun h => h5 i hi (by omega) h.symm
      · rw [List.getElem_set_ne hjq]
        exact h3 j hj
theorem place_set {l : List S37} {q : Nat} (hq : q < l.length) {r : S37} {t : ByteArray} (h1 : named t l[q] = false) (h2 : named t r = false) : place_of (l.set q r) t = place_of l t := by
  unfold place_of
  have e : (l.set q r).map (named t) = l.map (named t) := by
    rw [List.map_set, h2]
    have : (l.map (named t))[q]'(by rw [List.length_map]; exact hq) = false := by rw [List.getElem_map, h1]
    conv => lhs; rw [← this]
    exact List.set_getElem_self _
  have f : ∀ m : List S37, m.findIdx? (named t) = (m.map (named t)).findIdx? id := by
    intro m
    rw [List.findIdx?_map]
    rfl
  rw [f, f, e]
theorem get_set {l : List S37} {q : Nat} (hq : q < l.length) {r : S37} {t : ByteArray} (h1 : named t l[q] = false) (h2 : named t r = false) (hr : roots_right l = true) (hr2 : roots_right (l.set q r) = true) : get_of (l.set q r) t = get_of l t := by
  unfold get_of
  rw [if_pos hr, if_pos hr2, place_set hq h1 h2]
  split
  · split
    · rfl
    · rename_i hp
      obtain ⟨p, hp1, hp2, hp3, _⟩ := place_some hp
      have : q ≠ p := by
        intro h
        subst h
        rw [h1] at hp3
        cases hp3
      rw [hp2, rd_get (by rw [List.length_set]; exact hp1), rd_get hp1, List.getElem_set_ne this]
  · rfl
theorem get_bad {l : List S37} {t : ByteArray} (hr : roots_right l = true) (hn : ¬ names_right t = true) : get_of l t = (0, 0, 3) := by
  unfold get_of
  rw [if_pos hr, if_neg hn]
structure Kept (l l2 : List S37) (s : ByteArray) : Prop where
  right : roots_right l2 = true
  len : l2.length = l.length
  others : ∀ t : ByteArray, t.toList ≠ s.toList → get_of l2 t = get_of l t
theorem set_kept {l : List S37} {s : ByteArray} {a b : Int} (h : (set_of l s a b).2 = 0) : Kept l (set_of l s a b).1 s ∧ get_of (set_of l s a b).1 s = (a, b, 0) := by
  revert h
  unfold set_of
  split
  · rename_i hr
    split
    · rename_i hn
      split
      · rename_i hh
        have hg := ((good_iff l).1 hr).1
        have hlen := ((good_iff l).1 hr).2
        have hs := right_name hn
        have main : ∀ q (hq : q < l.length), (∀ j (hj : j < l.length), j ≠ q → l[j].f0.toList ≠ s.toList) → (l[q].f0.toList = [] ∨ l[q].f0.toList = s.toList) → Kept l (put_of l q s a b) s ∧ get_of (put_of l q s a b) s = (a, b, 0) := by
          intro q hq hall hold
          have hr2 : roots_right (put_of l q s a b) = true := by
            rw [good_iff]
            unfold put_of
            rw [List.length_set, Int.toNat_natCast]
            exact ⟨good_set hg q _ (Or.inr ⟨hn, hh, hall⟩), hlen⟩
          have hother : ∀ t : ByteArray, t.toList ≠ s.toList → get_of (put_of l q s a b) t = get_of l t := by
            intro t ht
            by_cases hnt : names_right t = true
            · have htne := right_name hnt
              unfold put_of at hr2 ⊢
              rw [Int.toNat_natCast] at hr2 ⊢
              refine get_set hq ?_ (beq_eq_false_iff_ne.2 fun h => ht h.symm) hr hr2
              refine beq_eq_false_iff_ne.2 fun h => ?_
              rcases hold with h0 | h0
              · exact htne (h.symm.trans h0)
              · exact ht (h.symm.trans h0)
            · rw [get_bad hr hnt, get_bad hr2 hnt]
          refine ⟨⟨hr2, by unfold put_of; rw [List.length_set], hother⟩, ?_⟩
          have hlt : q < (l.set q ⟨s, ⟨a, b⟩⟩).length := by rw [List.length_set]; exact hq
          have hp : place_of (put_of l q s a b) s = (q : Int) := by
            unfold put_of
            rw [Int.toNat_natCast]
            refine place_at hlt ?_ ?_
            · rw [List.getElem_set_self]; exact beq_iff_eq.2 rfl
            · intro j hj
              rw [List.getElem_set_ne (by omega)]
              exact beq_eq_false_iff_ne.2 (hall j (by omega) (by omega))
          unfold get_of
          rw [if_pos hr2, if_pos hn, hp, if_neg (by omega)]
          unfold put_of
          rw [Int.toNat_natCast, rd_get hlt, List.getElem_set_self]
        split
        · rename_i hp
          split
          · intro h; cases h
          · rename_i hp0
            intro _
            obtain ⟨q, hq, hq1, hq2, _⟩ := place_some hp0
            rw [hq1]
            have hno := place_none.1 hp
            refine main q hq (fun j hj _ => ?_) (Or.inl ((beq_iff_eq.1 hq2).trans (by decide +kernel)))
            exact beq_eq_false_iff_ne.1 (hno _ (List.getElem_mem hj))
        · rename_i hp
          intro _
          obtain ⟨q, hq, hq1, hq2, _⟩ := place_some hp
          rw [hq1]
          refine main q hq (fun j hj hjq he => ?_) (Or.inr (beq_iff_eq.1 hq2))
          exact hjq (one_place hg hs hj hq (beq_iff_eq.2 he) hq2)
      · intro h; cases h
    · intro h; cases h
  · intro h; cases h
theorem drop_kept {l : List S37} {s : ByteArray} (h : (drop_of l s).2 = 0) : Kept l (drop_of l s).1 s ∧ (get_of (drop_of l s).1 s).2.2 = 11 := by
  revert h
  unfold drop_of
  split
  · rename_i hr
    split
    · rename_i hn
      split
      · intro h; cases h
      · rename_i hp
        intro _
        have hg := ((good_iff l).1 hr).1
        have hlen := ((good_iff l).1 hr).2
        have hs := right_name hn
        obtain ⟨q, hq, hq1, hq2, _⟩ := place_some hp
        rw [hq1]
        have hr2 : roots_right (put_of l q ⟨#[]⟩ 0 0) = true := by
          rw [good_iff]
          unfold put_of
          rw [List.length_set, Int.toNat_natCast]
          exact ⟨good_set hg q _ (Or.inl (by decide +kernel)), hlen⟩
        have he0 : (⟨#[]⟩ : ByteArray).toList = [] := by decide +kernel
        refine ⟨⟨hr2, by unfold put_of; rw [List.length_set], ?_⟩, ?_⟩
        · intro t ht
          by_cases hnt : names_right t = true
          · have htne := right_name hnt
            unfold put_of at hr2 ⊢
            rw [Int.toNat_natCast] at hr2 ⊢
            refine get_set hq ?_ (beq_eq_false_iff_ne.2 fun h => htne (h.symm.trans he0)) hr hr2
            exact beq_eq_false_iff_ne.2 fun h => ht (h.symm.trans (beq_iff_eq.1 hq2))
          · rw [get_bad hr hnt, get_bad hr2 hnt]
        · have hp2 : place_of (put_of l q ⟨#[]⟩ 0 0) s < 0 := by
            rw [place_none]
            unfold put_of
            rw [Int.toNat_natCast]
            intro x hx
            obtain ⟨j, hj, rfl⟩ := List.mem_iff_getElem.1 hx
            rw [List.length_set] at hj
            by_cases hjq : q = j
            · subst hjq
              rw [List.getElem_set_self]
              exact beq_eq_false_iff_ne.2 fun h => hs (h.symm.trans he0)
            · rw [List.getElem_set_ne hjq]
              cases hx2 : named s l[j] with
              | false => rfl
              | true => exact absurd (one_place hg hs hq hj hq2 hx2) hjq
          unfold get_of
          rw [if_pos hr2, if_pos hn, if_pos hp2]
    · intro h; cases h
  · intro h; cases h
end Go.Proofs.Ytlhemachmidoaaa.Pure
