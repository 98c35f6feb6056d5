/- Gaps and used blocks: which words they own. Plain facts on lists of spans. -/
import Derived.Test.YtcjalhlejneddaaEg
namespace Go.Proofs.Ytcjalhlejneddaa.P
open Go.RowKit Go.Proofs.YtcjalhlejneddaaW.PrintWords Go.Proofs.YtcjalhlejneddaaW.PrintLast Go.Proofs.YtcjalhlejneddaaW.PrintMore
set_option linter.unusedVariables false
set_option linter.unusedSimpArgs false

def cov (x : Int) (s : S25) : Int := if s.f0 ≤ x ∧ x < s.f0 + s.f1 then 1 else 0
def own : List S25 → Int → Int
  | [], _ => 0
  | s :: l, x => cov x s + own l x
theorem own_append (l m : List S25) (x : Int) : own (l ++ m) x = own l x + own m x := by
  induction l with
  | nil => show own m x = 0 + own m x; omega
  | cons s l ih => show cov x s + own (l ++ m) x = cov x s + own l x + own m x; omega
theorem own_bounds (l : List S25) (x : Int) : 0 ≤ own l x ∧ own l x ≤ l.length := by
  induction l with
  | nil => exact ⟨Int.le_refl _, Int.le_refl _⟩
  | cons s l ih =>
    have h : cov x s = 0 ∨ cov x s = 1 := by unfold cov; split <;> simp
    show 0 ≤ cov x s + own l x ∧ cov x s + own l x ≤ ((l.length + 1 : Nat) : Int)
    omega
theorem own_take {l : List S25} {k : Nat} (h : k < l.length) (x : Int) : own (l.take (k + 1)) x = own (l.take k) x + cov x (rd_T25 l k) := by
  rw [List.take_succ_eq_append_getElem h, own_append]
  have e : rd_T25 l k = l[k] := by
    unfold rd_T25
    rw [Int.toNat_natCast, List.getD_eq_getElem?_getD, List.getElem?_eq_getElem h]
    rfl
  rw [e]
  show _ + (cov x l[k] + 0) = _
  omega
theorem rd_mem {l : List S25} {k : Nat} (h : k < l.length) : rd_T25 l k ∈ l := by
  unfold rd_T25
  rw [Int.toNat_natCast, List.getD_eq_getElem?_getD, List.getElem?_eq_getElem h]
  exact List.getElem_mem h
theorem push_front (acc b : List S25) (a e : Int) : gaps_push (acc ++ b) a e = acc ++ gaps_push b a e := by
  unfold gaps_push
  split <;> simp
theorem walk_front (tt : Int) : ∀ (l acc b : List S25) (a : Int), gaps_walk tt (acc ++ b) a l = (gaps_walk tt b a l).map (acc ++ ·) := by
  intro l
  induction l with
  | nil => intro acc b a; simp only [gaps_walk, push_front]; rfl
  | cons s l ih =>
    intro acc b a
    simp only [gaps_walk]
    by_cases h : gaps_fits a tt s
    · rw [if_pos h, if_pos h, push_front, ih]
    · rw [if_neg h, if_neg h]; rfl
/-- A walk's first step. -/
theorem walk_step {tt a : Int} {s : S25} {l r : List S25} (h : gaps_walk tt [] a (s :: l) = some r) :
    gaps_fits a tt s ∧ ∃ r', gaps_walk tt [] (s.f0 + s.f1) l = some r' ∧ r = gaps_push [] a s.f0 ++ r' := by
  simp only [gaps_walk] at h
  by_cases hf : gaps_fits a tt s
  · rw [if_pos hf] at h
    have h2 := walk_front tt l (gaps_push [] a s.f0) [] (s.f0 + s.f1)
    rw [List.append_nil] at h2
    rw [h2] at h
    cases hw : gaps_walk tt [] (s.f0 + s.f1) l with
    | none => rw [hw] at h; cases h
    | some r' =>
      rw [hw] at h
      exact ⟨hf, r', rfl, (Option.some.inj h).symm⟩
  · rw [if_neg hf] at h; cases h
theorem own_push (a e x : Int) : own (gaps_push [] a e) x = if a ≤ x ∧ x < e then 1 else 0 := by
  unfold gaps_push
  by_cases h : e > a
  · rw [if_pos h]
    show cov x ⟨a, e - a⟩ + 0 = _
    unfold cov
    simp only
    rw [show a + (e - a) = e by omega]
    omega
  · rw [if_neg h, if_neg (by omega)]; rfl
/-- Each word belongs to one block or one gap. -/
theorem walk_owns (tt : Int) : ∀ (l r : List S25) (a : Int), gaps_walk tt [] a l = some r → a ≤ tt → ∀ x, own l x + own r x = if a ≤ x ∧ x < tt then 1 else 0 := by
  intro l
  induction l with
  | nil =>
    intro r a h ha x
    simp only [gaps_walk, Option.some.injEq] at h
    subst h
    rw [own_push]
    show 0 + _ = _
    omega
  | cons s l ih =>
    intro r a h ha x
    obtain ⟨⟨f1, f2, f3, f4, f5, f6⟩, r', h1, rfl⟩ := walk_step h
    have h2 := ih r' _ h1 (by omega) x
    rw [own_append, own_push]
    show cov x s + own l x + _ = _
    unfold cov
    by_cases c1 : a ≤ x ∧ x < s.f0
    · rw [if_pos c1, if_neg (by omega), if_pos (by omega)]
      rw [if_neg (by omega)] at h2
      omega
    · rw [if_neg c1]
      by_cases c2 : s.f0 ≤ x ∧ x < s.f0 + s.f1
      · rw [if_pos c2, if_pos (by omega)]
        rw [if_neg (by omega)] at h2
        omega
      · rw [if_neg c2]
        by_cases c3 : s.f0 + s.f1 ≤ x ∧ x < tt
        · rw [if_pos (by omega)]
          rw [if_pos c3] at h2
          omega
        · rw [if_neg (by omega)]
          rw [if_neg c3] at h2
          omega
/-- Rows of gaps: in order, none beside another. -/
def Good (tt : Int) : Int → List S25 → Prop
  | _, [] => True
  | lo, g :: r => lo ≤ g.f0 ∧ 4 ≤ g.f1 ∧ g.f1 % 4 = 0 ∧ g.f0 + g.f1 ≤ tt ∧ Good tt (g.f0 + g.f1 + 1) r
theorem Good.weaken {tt lo lo' : Int} {r : List S25} (h : Good tt lo r) (hl : lo' ≤ lo) : Good tt lo' r := by
  cases r with
  | nil => trivial
  | cons g r =>
    obtain ⟨h1, h2⟩ := h
    exact ⟨by omega, h2⟩
theorem walk_good (tt : Int) (ht : tt % 4 = 0) : ∀ (l r : List S25) (a : Int), gaps_walk tt [] a l = some r → a ≤ tt → a % 4 = 0 → Good tt a r := by
  intro l
  induction l with
  | nil =>
    intro r a h ha h4
    simp only [gaps_walk, Option.some.injEq] at h
    subst h
    unfold gaps_push
    by_cases c : tt > a
    · rw [if_pos c]
      exact ⟨Int.le_refl _, by simp only; omega, by simp only; omega, by simp only; omega, trivial⟩
    · rw [if_neg c]; trivial
  | cons s l ih =>
    intro r a h ha h4
    obtain ⟨⟨f1, f2, f3, f4, f5, f6⟩, r', h1, rfl⟩ := walk_step h
    have h2 := ih r' _ h1 (by omega) (by omega)
    unfold gaps_push
    by_cases c : s.f0 > a
    · rw [if_pos c]
      exact ⟨Int.le_refl _, by simp only; omega, by simp only; omega, by simp only; omega, h2.weaken (by simp only; omega)⟩
    · rw [if_neg c]
      exact h2.weaken (by omega)
theorem Good.at_ {tt : Int} : ∀ {r : List S25} {lo : Int} (_ : Good tt lo r) (i : Nat) (_ : i < r.length), lo ≤ (rd_T25 r i).f0 ∧ 4 ≤ (rd_T25 r i).f1 ∧ (rd_T25 r i).f1 % 4 = 0 ∧ (rd_T25 r i).f0 + (rd_T25 r i).f1 ≤ tt
  | g :: r, lo, ⟨h1, h2, h3, h4, h5⟩, 0, _ => ⟨h1, h2, h3, h4⟩
  | g :: r, lo, ⟨h1, h2, h3, h4, h5⟩, i + 1, hi => by
    have h := Good.at_ h5 i (by simpa using hi)
    have e : rd_T25 (g :: r) ((i + 1 : Nat) : Int) = rd_T25 r (i : Int) := by
      unfold rd_T25
      rw [Int.toNat_natCast, Int.toNat_natCast]
      rfl
    rw [e]
    exact ⟨by omega, h.2.1, h.2.2.1, h.2.2.2⟩
theorem Good.next_ {tt : Int} : ∀ {r : List S25} {lo : Int} (_ : Good tt lo r) (i : Nat) (_ : i + 1 < r.length), (rd_T25 r i).f0 + (rd_T25 r i).f1 < (rd_T25 r ((i + 1 : Nat) : Int)).f0
  | g :: r, lo, ⟨h1, h2, h3, h4, h5⟩, 0, hi => by
    have h := Good.at_ h5 0 (by simpa using hi)
    have e : rd_T25 (g :: r) ((0 + 1 : Nat) : Int) = rd_T25 r ((0 : Nat) : Int) := by
      unfold rd_T25
      rw [Int.toNat_natCast, Int.toNat_natCast]
      rfl
    have e0 : rd_T25 (g :: r) ((0 : Nat) : Int) = g := rfl
    rw [e, e0]
    have := h.1
    omega
  | g :: r, lo, ⟨h1, h2, h3, h4, h5⟩, i + 1, hi => by
    have h := Good.next_ h5 i (by simpa using hi)
    have e : ∀ j : Nat, rd_T25 (g :: r) ((j + 1 : Nat) : Int) = rd_T25 r (j : Int) := by
      intro j
      unfold rd_T25
      rw [Int.toNat_natCast, Int.toNat_natCast]
      rfl
    rw [e, e]
    exact h
theorem walk_used (tt : Int) : ∀ (l r : List S25) (a : Int), gaps_walk tt [] a l = some r → 0 ≤ a → ∀ s ∈ l, 0 ≤ s.f0 ∧ 4 ≤ s.f1 ∧ s.f0 + s.f1 ≤ tt := by
  intro l
  induction l with
  | nil => intro r a h ha s hs; cases hs
  | cons s l ih =>
    intro r a h ha x hx
    obtain ⟨⟨f1, f2, f3, f4, f5, f6⟩, r', h1, rfl⟩ := walk_step h
    rcases List.mem_cons.1 hx with rfl | hx
    · exact ⟨by omega, by omega, by omega⟩
    · exact ih r' _ h1 (by omega) x hx
theorem walk_room (tt : Int) : ∀ (l r : List S25) (a : Int), gaps_walk tt [] a l = some r → a ≤ tt → 4 * (l.length : Int) ≤ tt - a ∧ r.length ≤ l.length + 1 := by
  intro l
  induction l with
  | nil =>
    intro r a h ha
    simp only [gaps_walk, Option.some.injEq] at h
    subst h
    have := gaps_push_length [] a tt
    simp only [List.length_nil] at this ⊢
    omega
  | cons s l ih =>
    intro r a h ha
    obtain ⟨⟨f1, f2, f3, f4, f5, f6⟩, r', h1, rfl⟩ := walk_step h
    have h2 := ih r' _ h1 (by omega)
    have h3 := gaps_push_length [] a s.f0
    rw [List.length_append, List.length_cons]
    simp only [List.length_nil] at h3
    omega
end Go.Proofs.Ytcjalhlejneddaa.P
