/- What a laid list keeps, page by page; and the mates of a page. -/
import Derived.Test.YtlpkbekpdhaplaaX3
namespace Go.Proofs.Ytlpkbekpdhaplaa.Pure
open Go.RowKit Go.Proofs.Ytlpkbekpdhaplaa.P Go.Proofs.Ytlpkbekpdhaplaa.Open Go.Proofs.YtlpkbekpdhaplaaW.PrintWords Go.Proofs.YtlpkbekpdhaplaaW.PrintLast
set_option linter.unusedSimpArgs false
set_option linter.unusedVariables false

/-- A spot that is one: a cell, or pages. -/
theorem spotv_cases {n a len : Int} (h : (spotv n a len).2.2.2.2.2 = true) :
    (1 ≤ len ∧ len ≤ 120 ∧ ∃ p k : Nat, a = (p : Int) * 32 + (4 + (k : Int) * wordsOf (class_of len)) ∧ (k : Int) < 28 / wordsOf (class_of len) ∧ (p : Int) < n ∧ spotv n a len = ((p : Int), 1, true, class_of len, (k : Int), true)) ∨
    (120 < len ∧ len ≤ 2048 ∧ ∃ p : Nat, a = (p : Int) * 32 ∧ (p : Int) < n ∧ (len + 255) / 256 ≤ n - p ∧ spotv n a len = ((p : Int), (len + 255) / 256, false, 0, 0, true)) := by
  unfold spotv at h
  by_cases c0 : a < 0
  · rw [if_pos c0] at h; cases h
  · rw [if_neg c0] at h
    by_cases c1 : 1 ≤ len ∧ len ≤ 120
    · rw [if_pos c1] at h
      have hc := class_of_in len
      have hw := wordsOf_in hc.1 hc.2
      by_cases c2 : 4 ≤ a % 32 ∧ (a % 32 - 4) % wordsOf (class_of len) = 0 ∧ (a % 32 - 4) / wordsOf (class_of len) < 28 / wordsOf (class_of len)
      · rw [if_pos c2] at h
        simp only [decide_eq_true_eq] at h
        refine .inl ⟨c1.1, c1.2, (a / 32).toNat, ((a % 32 - 4) / wordsOf (class_of len)).toNat, ?_⟩
        have hq : 0 ≤ (a % 32 - 4) / wordsOf (class_of len) := Int.ediv_nonneg (by omega) (by omega)
        have e1 : (((a % 32 - 4) / wordsOf (class_of len)).toNat : Int) = (a % 32 - 4) / wordsOf (class_of len) := Int.toNat_of_nonneg hq
        have e2 : ((a / 32).toNat : Int) = a / 32 := Int.toNat_of_nonneg (by omega)
        have hm := Int.mul_ediv_add_emod (a % 32 - 4) (wordsOf (class_of len))
        rw [c2.2.1, Int.add_zero, Int.mul_comm] at hm
        rw [e1, e2]
        refine ⟨by omega, c2.2.2, h, ?_⟩
        unfold spotv
        rw [if_neg c0, if_pos c1, if_pos c2, decide_eq_true h]
      · rw [if_neg c2] at h; cases h
    · rw [if_neg c1] at h
      by_cases c2 : 120 < len ∧ len ≤ 2048
      · rw [if_pos c2] at h
        simp only [decide_eq_true_eq] at h
        have e2 : ((a / 32).toNat : Int) = a / 32 := Int.toNat_of_nonneg (by omega)
        refine .inr ⟨c2.1, c2.2, (a / 32).toNat, ?_⟩
        rw [e2]
        refine ⟨by omega, by omega, by omega, ?_⟩
        unfold spotv
        rw [if_neg c0, if_neg c1, if_pos c2, decide_eq_true h]
      · rw [if_neg c2] at h; cases h

/-- A page's kind and cells, as the objects on it say. -/
def AtP (n : Int) (p : Nat) (l : List S44) (v : Int) (c : Nat) : Prop :=
  (v = -1 ∧ ∀ o ∈ l, hits n p o = false) ∨
  (0 ≤ v ∧ v < 6 ∧ (∃ o ∈ l, hits n p o = true) ∧ (∀ o ∈ l, hits n p o = true → (spotv n o.f0 o.f1).2.2.1 = true ∧ (spotv n o.f0 o.f1).2.2.2.1 = v) ∧ ∀ k : Nat, c.testBit k = true ↔ ∃ o ∈ l, hits n p o = true ∧ (spotv n o.f0 o.f1).2.2.2.2.1 = k) ∨
  (6 ≤ v ∧ v ≤ 7 ∧ l.countP (hits n p) = 1 ∧ ∀ o ∈ l, hits n p o = true → (spotv n o.f0 o.f1).2.2.1 = false)
theorem AtP.other {n : Int} {p : Nat} {l : List S44} {v : Int} {c : Nat} (h : AtP n p l v c) {o : S44} (ho : hits n p o = false) : AtP n p (l ++ [o]) v c := by
  have hm : ∀ {x : S44}, x ∈ l ++ [o] → hits n p x = true → x ∈ l := fun {x} hx h2 => by
    rcases List.mem_append.1 hx with hx | hx
    · exact hx
    · rw [List.mem_singleton.1 hx, ho] at h2; cases h2
  rcases h with ⟨rfl, h⟩ | ⟨h0, h1, ⟨o', h2, h2'⟩, h3, h4⟩ | ⟨h0, h1, h2, h3⟩
  · refine .inl ⟨rfl, fun x hx => ?_⟩
    cases e : hits n p x with
    | false => rfl
    | true => have := h x (hm hx e); rw [e] at this; cases this
  · refine .inr (.inl ⟨h0, h1, ⟨o', List.mem_append_left _ h2, h2'⟩, fun x hx e => h3 x (hm hx e) e, fun k => ?_⟩)
    rw [h4]
    exact ⟨fun ⟨x, a, b⟩ => ⟨x, List.mem_append_left _ a, b⟩, fun ⟨x, a, b⟩ => ⟨x, hm a b.1, b⟩⟩
  · refine .inr (.inr ⟨h0, h1, ?_, fun x hx e => h3 x (hm hx e) e⟩)
    rw [List.countP_append, h2, List.countP_singleton, ho]; rfl
structure Inv (n : Nat) (l : List S44) (ks : List Int) (cs : List Nat) : Prop where
  ok : ∀ o ∈ l, (spotv n o.f0 o.f1).2.2.2.2.2 = true
  len : ks.length = n
  cells : cs.length = 64
  at_ : ∀ p : Nat, p < n → AtP n p l (ks.getD p 0) (cs.getD p 0)
theorem hits_small {n p : Int} {q : Nat} {o : S44} {c k : Int} {b b' : Bool} (e : spotv n o.f0 o.f1 = (p, 1, b, c, k, b')) : hits n q o = decide (p = (q : Int)) := by
  unfold hits; rw [e, ← Bool.decide_and]; exact decide_eq_decide.2 (by simp only; omega)
theorem hits_long {n p m : Int} {q : Nat} {o : S44} {c k : Int} {b b' : Bool} (e : spotv n o.f0 o.f1 = (p, m, b, c, k, b')) : hits n q o = decide (p ≤ (q : Int) ∧ (q : Int) < p + m) := by
  unfold hits; rw [e, ← Bool.decide_and]; exact decide_eq_decide.2 (by simp only; omega)
theorem getDn_set_ne {cs : List Nat} {p q : Nat} {v : Nat} (h : p ≠ q) : (cs.set p v).getD q 0 = cs.getD q 0 := by
  rw [List.getD_eq_getElem?_getD, List.getElem?_set_ne h, ← List.getD_eq_getElem?_getD]
theorem getDn_set_eq {cs : List Nat} {p : Nat} {v : Nat} (h : p < cs.length) : (cs.set p v).getD p 0 = v := by
  rw [List.getD_eq_getElem?_getD, List.getElem?_set_self h]; rfl
theorem Inv.snoc {n : Nat} (hn : n ≤ 64) {l : List S44} {ks : List Int} {cs : List Nat} (h : Inv n l ks cs) {o : S44} (ho : (spotv n o.f0 o.f1).2.2.2.2.2 = true) {st : List Int × List Nat} (hl : layOf (spotv n o.f0 o.f1) ks cs = some st) : Inv n (l ++ [o]) st.1 st.2 := by
  have hlen := layOf_length hl
  refine ⟨fun x hx => ?_, hlen.1.trans h.len, hlen.2.trans h.cells, fun q hq => ?_⟩
  · rcases List.mem_append.1 hx with hx | hx
    · exact h.ok x hx
    · rw [List.mem_singleton.1 hx]; exact ho
  · have hA := h.at_ q hq
    have hkl := h.len
    have hcl := h.cells
    rcases spotv_cases ho with ⟨s1, s2, p, k, ha, hk, hp, e⟩ | ⟨s1, s2, p, ha, hp, hm, e⟩
    · have hc := class_of_in o.f1
      have hh : ∀ q : Nat, hits n q o = decide ((p : Int) = q) := fun q => hits_small e
      rw [e] at hl
      unfold layOf at hl
      simp only [if_true, Int.toNat_natCast, rd_nat] at hl
      by_cases epq : p = q
      · subst epq
        have hit : hits n p o = true := by rw [hh]; exact decide_eq_true rfl
        split at hl
        · rename_i hc1
          obtain rfl := Option.some.inj hl
          simp only
          rw [getDn_set_eq (by omega)]
          rcases hA with ⟨g, _⟩ | ⟨g0, g1, _, g3, g4⟩ | ⟨g0, _⟩
          · omega
          · refine .inr (.inl ⟨g0, g1, ⟨o, by simp, hit⟩, fun x hx e2 => ?_, fun j => ?_⟩)
            · rcases List.mem_append.1 hx with hx | hx
              · exact g3 x hx e2
              · rw [List.mem_singleton.1 hx, e]; exact ⟨rfl, hc1.1.symm⟩
            · rw [Nat.testBit_or, Nat.testBit_two_pow, Bool.or_eq_true, g4, decide_eq_true_eq]
              constructor
              · rintro (⟨x, a, b⟩ | rfl)
                · exact ⟨x, List.mem_append_left _ a, b⟩
                · exact ⟨o, by simp, hit, by rw [e]⟩
              · rintro ⟨x, a, b1, b2⟩
                rcases List.mem_append.1 a with a | a
                · exact .inl ⟨x, a, b1, b2⟩
                · rw [List.mem_singleton.1 a, e] at b2
                  simp only at b2
                  exact .inr (by omega)
          · omega
        · split at hl
          · rename_i hc1
            obtain rfl := Option.some.inj hl
            simp only
            rw [getDn_set_eq (by omega), getD_set_eq (by omega)]
            rcases hA with ⟨_, g⟩ | ⟨g0, _⟩ | ⟨g0, _⟩
            · refine .inr (.inl ⟨hc.1, hc.2, ⟨o, by simp, hit⟩, fun x hx e2 => ?_, fun j => ?_⟩)
              · rcases List.mem_append.1 hx with hx | hx
                · rw [g x hx] at e2; cases e2
                · rw [List.mem_singleton.1 hx, e]; exact ⟨rfl, rfl⟩
              · rw [Nat.testBit_two_pow, decide_eq_true_eq]
                constructor
                · rintro rfl
                  exact ⟨o, by simp, hit, by rw [e]⟩
                · rintro ⟨x, a, b1, b2⟩
                  rcases List.mem_append.1 a with a | a
                  · rw [g x a] at b1; cases b1
                  · rw [List.mem_singleton.1 a, e] at b2
                    simp only at b2
                    omega
            · omega
            · omega
          · cases hl
      · have miss : hits n q o = false := by rw [hh]; exact decide_eq_false (by omega)
        have : AtP n q (l ++ [o]) (ks.getD q 0) (cs.getD q 0) := hA.other miss
        split at hl
        · obtain rfl := Option.some.inj hl
          simp only
          rw [getDn_set_ne epq]; exact this
        · split at hl
          · obtain rfl := Option.some.inj hl
            simp only
            rw [getDn_set_ne epq, getD_set_ne epq]; exact this
          · cases hl
    · have hh : ∀ q : Nat, hits n q o = decide ((p : Int) ≤ q ∧ (q : Int) < p + (o.f1 + 255) / 256) := fun q => hits_long e
      have hm1 : 1 ≤ (o.f1 + 255) / 256 := by omega
      have hsm : (spotv n o.f0 o.f1).2.2.1 = false := by rw [e]
      rw [e] at hl
      unfold layOf at hl
      simp only [Bool.false_eq_true, if_false, Int.toNat_natCast] at hl
      generalize (o.f1 + 255) / 256 = need at hm hl hh hm1
      obtain ⟨m, rfl⟩ : ∃ m : Nat, need = (m : Int) := ⟨need.toNat, by omega⟩
      rw [Int.toNat_natCast] at hl
      split at hl
      · rename_i hf
        obtain rfl := Option.some.inj hl
        simp only
        by_cases hin : p ≤ q ∧ q < p + m
        · have hit : hits n q o = true := by rw [hh]; exact decide_eq_true (by omega)
          have hfree : ks.getD q 0 = -1 := by have := freeK_lt (i := q - p) hf (by omega); rwa [show p + (q - p) = q by omega] at this
          have hv : ((fillK ks p m).set p 6).getD q 0 = 6 ∨ ((fillK ks p m).set p 6).getD q 0 = 7 := by
            by_cases e1 : p = q
            · rw [← e1]; exact .inl (getD_set_eq (by rw [fillK_length]; omega))
            · rw [getD_set_ne e1, fillK_get, if_pos (by omega)]; exact .inr rfl
          rcases hA with ⟨_, g⟩ | ⟨g0, _⟩ | ⟨g0, _⟩
          · refine .inr (.inr ⟨by omega, by omega, ?_, fun x hx e2 => ?_⟩)
            · rw [List.countP_append, List.countP_singleton, hit, if_pos rfl, List.countP_eq_zero.2 (fun x hx => by rw [g x hx]; decide)]
            · rcases List.mem_append.1 hx with hx | hx
              · rw [g x hx] at e2; cases e2
              · rw [List.mem_singleton.1 hx]; exact hsm
          · omega
          · omega
        · have miss : hits n q o = false := by rw [hh]; exact decide_eq_false (by omega)
          have hv : ((fillK ks p m).set p 6).getD q 0 = ks.getD q 0 := by
            by_cases e1 : p = q
            · omega
            · rw [getD_set_ne e1, fillK_get, if_neg (by omega)]
          rw [hv]
          exact hA.other miss
      · cases hl
theorem inv_all {n : Nat} (hn : n ≤ 64) : ∀ (l pre : List S44) (st st' : List Int × List Nat), Inv n pre st.1 st.2 → layAll n l st = some st' → Inv n (pre ++ l) st'.1 st'.2
  | [], pre, st, st', h, e => by obtain rfl := Option.some.inj e; rw [List.append_nil]; exact h
  | o :: l, pre, st, st', h, e => by
    simp only [layAll] at e
    split at e
    · rename_i ho
      cases h1 : layOf (spotv n o.f0 o.f1) st.1 st.2 with
      | none => rw [h1] at e; cases e
      | some s2 =>
        rw [h1] at e
        have := inv_all hn l (pre ++ [o]) s2 st' (h.snoc hn ho h1) e
        rwa [List.append_assoc] at this
    · cases e
theorem inv_nil {n : Nat} (hn : n ≤ 64) : Inv n [] (List.replicate n (-1)) (List.replicate 64 0) :=
  ⟨fun o ho => absurd ho (List.not_mem_nil), List.length_replicate, List.length_replicate, fun p hp => .inl ⟨by rw [List.getD_eq_getElem?_getD, List.getElem?_replicate, if_pos hp]; rfl, fun o ho => absurd ho (List.not_mem_nil)⟩⟩
theorem laid_inv {n : Nat} {l : List S44} {st : List Int × List Nat} (h : laid n l = some st) : Inv n l st.1 st.2 := by
  have h0 := laid_length h
  unfold laid at h
  rw [if_pos ⟨h0.1, h0.2.1⟩, Int.toNat_natCast] at h
  exact inv_all (by omega) l [] _ st (inv_nil (by omega)) h

/-! ### Mates -/
theorem mates_length (n page : Int) : ∀ (l : List S44) (i : Nat), (matesOf n page i l).length = l.countP (hits n page)
  | [], i => rfl
  | o :: l, i => by
    rw [matesOf, List.length_append, mates_length n page l (i + 1), List.countP_cons]
    cases hits n page o <;> simp [Nat.add_comm]
theorem mates_mem (n page : Int) : ∀ (l : List S44) (i : Nat) (x : Int), x ∈ matesOf n page i l → ∃ j : Nat, x = ((i + j : Nat) : Int) ∧ ∃ o, l[j]? = some o ∧ hits n page o = true
  | [], i, x, h => by cases h
  | o :: l, i, x, h => by
    rw [matesOf] at h
    rcases List.mem_append.1 h with h | h
    · split at h
      · rename_i ho
        rw [List.mem_singleton.1 h]; exact ⟨0, rfl, o, rfl, ho⟩
      · cases h
    · obtain ⟨j, rfl, o', h1, h2⟩ := mates_mem n page l (i + 1) x h
      exact ⟨j + 1, by congr 1; omega, o', by rw [List.getElem?_cons_succ]; exact h1, h2⟩
theorem mates_rise (n page : Int) : ∀ (l : List S44) (i : Nat), (matesOf n page i l).Pairwise (· < ·)
  | [], i => List.Pairwise.nil
  | o :: l, i => by
    rw [matesOf]
    split
    · rw [List.singleton_append, List.pairwise_cons]
      refine ⟨fun x hx => ?_, mates_rise n page l (i + 1)⟩
      obtain ⟨j, rfl, _⟩ := mates_mem n page l (i + 1) x hx
      omega
    · exact mates_rise n page l (i + 1)
/-- All pages' mates together. -/
def psum (n : Int) (l : List S44) : Nat → Nat
  | 0 => 0
  | m + 1 => psum n l m + l.countP (hits n m)
def csum (n : Int) : List S44 → Nat
  | [] => 0
  | o :: l => (spotv n o.f0 o.f1).2.1.toNat + csum n l
theorem psum_cons (n : Int) (o : S44) (l : List S44) (s c : Nat) (h1 : (spotv n o.f0 o.f1).1 = s) (h2 : (spotv n o.f0 o.f1).2.1 = c) : ∀ m : Nat, psum n (o :: l) m + min m s = psum n l m + min m (s + c)
  | 0 => by simp [psum]
  | m + 1 => by
    have ih := psum_cons n o l s c h1 h2 m
    simp only [psum, List.countP_cons]
    have : hits n m o = decide (s ≤ m ∧ m < s + c) := by
      unfold hits; rw [h1, h2, ← Bool.decide_and]; exact decide_eq_decide.2 (by omega)
    rw [this]
    by_cases hc : s ≤ m ∧ m < s + c
    · rw [decide_eq_true hc, if_pos rfl]; omega
    · rw [decide_eq_false hc, if_neg (by decide)]; omega
theorem psum_nil (n : Int) : ∀ m, psum n [] m = 0
  | 0 => rfl
  | m + 1 => by simp [psum, psum_nil n m]
theorem psum_is {n : Nat} (hn : n ≤ 64) : ∀ (l : List S44), (∀ o ∈ l, (spotv n o.f0 o.f1).2.2.2.2.2 = true) → psum n l n = csum n l
  | [], _ => psum_nil _ _
  | o :: l, h => by
    have ih := psum_is hn l (fun x hx => h x (List.mem_cons_of_mem _ hx))
    have hi := spotv_in n o.f0 o.f1 (by omega) (by omega) (h o (List.mem_cons_self ..))
    rw [Int.toNat_natCast] at hi
    have := hi.p0
    have := hi.p1
    have := hi.c0
    have := hi.c1
    have := psum_cons n o l (spotv n o.f0 o.f1).1.toNat (spotv n o.f0 o.f1).2.1.toNat (by omega) (by omega) n
    rw [csum, ← ih]
    omega
theorem psum_le (n : Int) (l : List S44) : ∀ m, psum n l m ≤ m * l.length
  | 0 => by simp [psum]
  | m + 1 => by have := psum_le n l m; have := List.countP_le_length (p := hits n m) (l := l); rw [psum, Nat.succ_mul]; omega
end Go.Proofs.Ytlpkbekpdhaplaa.Pure
