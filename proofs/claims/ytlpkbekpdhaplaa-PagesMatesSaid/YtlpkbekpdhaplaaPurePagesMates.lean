/- The mates of the pages: increasing, of the page's kind, each object once for each page of its. -/
import Derived.Test.YtlpkbekpdhaplaaP16
import Derived.Test.YtlpkbekpdhaplaaX4
namespace Go.Proofs.Ytlpkbekpdhaplaa.Pure
open Go.RowKit Go.Proofs.Ytlpkbekpdhaplaa.P Go.Proofs.Ytlpkbekpdhaplaa.Open Go.Proofs.YtlpkbekpdhaplaaW.PrintWords Go.Proofs.YtlpkbekpdhaplaaW.PrintLast
set_option linter.unusedVariables false
set_option linter.unusedSimpArgs false

theorem rd44_nat (l : List S44) (j : Nat) (h : j < l.length) : rd_T44 l (j : Int) = l[j] := by
  unfold rd_T44; rw [Int.toNat_natCast, List.getD_eq_getElem?_getD, List.getElem?_eq_getElem h]; rfl
theorem mates_l1 {n : Nat} (hn : n ≤ 64) {l : List S44} {ks : List Int} {cs : List Nat} (hi : Inv n l ks cs) (hl : l.length ≤ 200) {p : Nat} (hp : p < n) (k : Nat) (x5 : Bool) (x8 : Int) :
    ∀ (d j : Nat), j + d = (matesOf n p 0 l).length → joistlaw13_PagesMates.l1 (k + 2 * d + 1) n l x5 ks x8 p (matesOf n p 0 l) j = joistlaw13_PagesMates.l0 k n l x5 ks x8 (wrap64 (p + 1)) := by
  have hlen := hi.len
  have hml := mates_length n p l 0
  have hcl := List.countP_le_length (p := hits n p) (l := l)
  intro d
  induction d with
  | zero => intro j hj; simp only [joistlaw13_PagesMates.l1]; rw [if_neg (by omega)]
  | succ d ih =>
    intro j hj
    have hjl : j < (matesOf n p 0 l).length := by omega
    have hmem := List.getElem_mem hjl
    obtain ⟨i, hx, o, ho, hh⟩ := mates_mem n p l 0 _ hmem
    rw [Nat.zero_add] at hx
    have hil : i < l.length := (List.getElem?_eq_some_iff.1 ho).1
    have hrd : rd (matesOf n p 0 l) (j : Int) = (i : Int) := by rw [rd_nat, List.getD_eq_getElem?_getD, List.getElem?_eq_getElem hjl]; exact hx
    have ho2 : rd_T44 l (i : Int) = o := by rw [rd44_nat l i hil]; exact (List.getElem?_eq_some_iff.1 ho).2
    have hom : o ∈ l := List.mem_of_getElem? ho
    have key : joistlaw13_PagesMates.j5 (k + 2 * d + 1 + 1) n l x5 ks x8 p (matesOf n p 0 l) j false = joistlaw13_PagesMates.l0 k n l x5 ks x8 (wrap64 (p + 1)) := by
      simp only [joistlaw13_PagesMates.j5]
      rw [if_neg (by decide), if_pos (by omega), if_pos (by omega), hrd, if_pos (by omega), if_pos (by omega), ho2]
      unfold class_Of.f
      have hnext := ih (j + 1) (by omega)
      have hw : wrap64 ((j : Int) + 1) = ((j + 1 : Nat) : Int) := by rw [wrap_in (by omega) (by omega)]; omega
      rw [hw]
      rcases hi.at_ p hp with ⟨_, g⟩ | ⟨g0, g1, _, g3, _⟩ | ⟨g0, g1, _, g3⟩
      · rw [g o hom] at hh; cases hh
      · obtain ⟨e1, e2⟩ := g3 o hom hh
        rcases spotv_cases (hi.ok o hom) with ⟨s1, s2, _, _, _, _, _, e⟩ | ⟨_, _, _, _, _, _, e⟩
        · rw [e] at e2
          simp only at e2
          rw [if_pos ⟨s1, s2⟩]
          simp only [Option.bind_some]
          rw [if_pos (show (0 : Int) ≤ p by omega), if_pos (show (p : Int) < ks.length by omega), rd_nat]
          rw [decide_eq_true (show List.getD ks p 0 < 6 by omega), if_neg (by decide), if_pos trivial, if_pos e2]
          exact hnext
        · rw [e] at e1; cases e1
      · have e1 := g3 o hom hh
        rcases spotv_cases (hi.ok o hom) with ⟨_, _, _, _, _, _, _, e⟩ | ⟨s1, s2, _, _, _, _, e⟩
        · rw [e] at e1; cases e1
        · rw [if_neg (by omega)]
          simp only [Option.bind_some]
          rw [if_pos (show (0 : Int) ≤ p by omega), if_pos (show (p : Int) < ks.length by omega), rd_nat]
          rw [decide_eq_false (show ¬ List.getD ks p 0 < 6 by omega), if_neg (by decide), if_neg (by decide)]
          exact hnext
    rw [show k + 2 * (d + 1) + 1 = k + 2 * d + 1 + 1 + 1 by omega]
    unfold joistlaw13_PagesMates.l1
    rw [if_pos (by omega), if_pos (by omega), hrd, if_neg (by omega), if_neg (by omega)]
    by_cases hj0 : (j : Int) > 0
    · rw [if_pos hj0, wrap_in (by omega) (by omega), if_pos (by omega), if_pos (by omega)]
      have hr : rd (matesOf n p 0 l) ((j : Int) - 1) < (i : Int) := by
        rw [show (j : Int) - 1 = ((j - 1 : Nat) : Int) by omega, rd_nat, List.getD_eq_getElem?_getD, List.getElem?_eq_getElem (by omega), ← hx]
        exact (List.pairwise_iff_getElem.1 (mates_rise n p l 0)) (j - 1) j (by omega) hjl (by omega)
      rw [decide_eq_false (by omega)]
      exact key
    · rw [if_neg hj0]; exact key
theorem mates_l2 {n : Nat} (hn : n ≤ 64) {l : List S44} (hok : okL l = true) (hv : ∀ o ∈ l, (spotv n o.f0 o.f1).2.2.2.2.2 = true) {st} (hla : laid n l = some st) (hl : l.length ≤ 200) :
    ∀ (d i k : Nat) (acc : Nat), i + d = l.length → acc ≤ 12800 → acc + csum n (l.drop i) = csum n l → csum n l ≤ 12800 → joistlaw13_PagesMates.l2 (k + d + 1) n l true (csum n l : Nat) (acc : Int) i = some true := by
  intro d
  induction d with
  | zero =>
    intro i k acc hi ha hs hc
    rw [show l.drop i = [] from List.drop_eq_nil_of_le (by omega)] at hs
    simp only [csum] at hs
    have hm : ∀ page : Int, (page = -1 ∨ page = n) → matesOf n page 0 l = [] := by
      intro page hp
      apply List.eq_nil_of_length_eq_zero
      rw [mates_length, List.countP_eq_zero]
      intro o ho
      have h := spotv_in n o.f0 o.f1 (by omega) (by omega) (hv o ho)
      rw [Int.toNat_natCast] at h
      have := h.p0
      have := h.p1
      have := h.c0
      have := h.c1
      unfold hits
      rw [← Bool.decide_and, decide_eq_false (by omega)]
      decide
    simp only [joistlaw13_PagesMates.l2]
    rw [if_neg (by omega), if_pos trivial, if_pos (by omega), mates_is hok (by omega), hla, mates_is hok (by omega), hla]
    simp only [Option.bind_some]
    rw [hm _ (.inl rfl), hm _ (.inr rfl), List.length_nil, wrap_in (by omega) (by omega)]
    rfl
  | succ d ih =>
    intro i k acc hi ha hs hc
    have hil : i < l.length := by omega
    rw [List.drop_eq_getElem_cons hil, csum] at hs
    have hom : l[i] ∈ l := List.getElem_mem hil
    have hw : wrap64 ((i : Int) + 1) = ((i + 1 : Nat) : Int) := by rw [wrap_in (by omega) (by omega)]; omega
    rw [show k + (d + 1) + 1 = (k + d + 1) + 1 by omega]
    unfold joistlaw13_PagesMates.l2
    rw [if_pos (by omega), if_pos (by omega), rd44_nat l i hil, pagesOf_is]
    simp only [Option.bind_some]
    rw [hw]
    rcases spotv_cases (hv _ hom) with ⟨s1, s2, _, _, _, _, _, e⟩ | ⟨s1, s2, _, _, _, _, e⟩
    · rw [show (if 120 < l[i].f1 ∧ l[i].f1 ≤ 2048 then ((l[i].f1 + 255) / 256, (0 : Int)) else (0, 1)) = (0, 1) from if_neg (by omega), if_neg (by decide)]
      rw [e] at hs
      rw [wrap_in (by omega) (by omega), show (acc : Int) + 1 = ((acc + 1 : Nat) : Int) by omega]
      exact ih (i + 1) k (acc + 1) (by omega) (by simp only at hs; omega) (by simp only at hs; omega) hc
    · rw [show (if 120 < l[i].f1 ∧ l[i].f1 ≤ 2048 then ((l[i].f1 + 255) / 256, (0 : Int)) else (0, 1)) = ((l[i].f1 + 255) / 256, 0) from if_pos ⟨s1, s2⟩, if_pos rfl]
      rw [e] at hs
      simp only at hs ⊢
      rw [wrap_in (by omega) (by omega), show (acc : Int) + (l[i].f1 + 255) / 256 = ((acc + ((l[i].f1 + 255) / 256).toNat : Nat) : Int) by omega]
      exact ih (i + 1) k _ (by omega) (by omega) (by omega) hc
theorem mates_l0 {n : Nat} (hn : n ≤ 64) {l : List S44} (hok : okL l = true) {st} (hla : laid n l = some st) (hl : l.length ≤ 200) :
    ∀ (d p k : Nat), p + d = n → 500 * d + 500 ≤ k → joistlaw13_PagesMates.l0 k n l true st.1 (psum n l p : Nat) p = some true := by
  have hi := laid_inv hla
  have hlen := hi.len
  intro d
  induction d with
  | zero =>
    intro p k hp hk
    obtain rfl : p = n := by omega
    obtain ⟨k, rfl⟩ : ∃ m, k = m + 2 := ⟨k - 2, by omega⟩
    simp only [joistlaw13_PagesMates.l0]
    rw [if_neg (by omega)]
    simp only [joistlaw13_PagesMates.j2, Bool.false_eq_true, if_false]
    have hps := psum_is hn l hi.ok
    have hle := psum_le p l p
    rw [hps] at hle ⊢
    have hle2 : p * l.length ≤ 64 * 200 := Nat.mul_le_mul hn hl
    obtain ⟨m, rfl⟩ : ∃ m, k = m + l.length + 1 := ⟨k - l.length - 1, by omega⟩
    exact mates_l2 hn hok hi.ok hla hl l.length 0 m 0 (by omega) (by omega) (by rw [List.drop_zero]; omega) (by omega)
  | succ d ih =>
    intro p k hp hk
    have hml := mates_length n p l 0
    have hcl := List.countP_le_length (p := hits n p) (l := l)
    have hle := psum_le n l p
    have hle2 : p * l.length ≤ 64 * 200 := Nat.mul_le_mul (by omega) hl
    obtain ⟨m, rfl⟩ : ∃ m, k = m + 2 * (matesOf n p 0 l).length + 1 + 3 := ⟨k - (2 * (matesOf n p 0 l).length + 1 + 3), by omega⟩
    have hnext := ih (p + 1) m (by omega) (by omega)
    have hloop := mates_l1 hn hi hl (p := p) (by omega) m true (psum n l (p + 1) : Nat) (matesOf n p 0 l).length 0 (by omega)
    rw [wrap_in (by omega) (by omega), show (p : Int) + 1 = ((p + 1 : Nat) : Int) by omega, hnext] at hloop
    simp only [joistlaw13_PagesMates.l0]
    rw [if_pos (by omega), decide_eq_true (show (p : Int) < (st.1.length : Int) by omega)]
    simp only [joistlaw13_PagesMates.j2, if_true]
    rw [mates_is hok (by omega), hla]
    simp only [Option.bind_some]
    rw [if_pos (by omega), if_pos (by omega), rd_nat]
    have hsum : wrap64 ((psum n l p : Nat) + ((matesOf n p 0 l).length : Int)) = ((psum n l (p + 1) : Nat) : Int) := by
      rw [wrap_in (by omega) (by omega), psum, hml]; omega
    rw [hsum]
    have fin : joistlaw13_PagesMates.j3 (m + 2 * (matesOf n p 0 l).length + 1 + 1) n l true st.1 (psum n l (p + 1) : Nat) p (matesOf n p 0 l) false = some true := by
      simp only [joistlaw13_PagesMates.j3, Bool.false_eq_true, if_false]
      exact hloop
    rcases hi.at_ p (by omega) with ⟨g0, g⟩ | ⟨g0, g1, ⟨o, g2, g3⟩, _⟩ | ⟨g0, g1, g2, _⟩
    · have : (matesOf n p 0 l).length = 0 := by rw [hml, List.countP_eq_zero]; intro o ho; rw [g o ho]; decide
      rw [g0, this, if_neg (by decide), if_neg (by decide)]
      rw [this] at fin; exact fin
    · have : 0 < (matesOf n p 0 l).length := by rw [hml]; exact List.countP_pos_iff.2 ⟨o, g2, g3⟩
      rw [show (((matesOf n p 0 l).length : Int) == 0) = false from beq_false_of_ne (by omega), show (st.1.getD p 0 == -1) = false from beq_false_of_ne (by omega), if_neg (by decide), if_neg (by omega)]
      exact fin
    · have h1 : (matesOf n p 0 l).length = 1 := by rw [hml, g2]
      rw [show (((matesOf n p 0 l).length : Int) == 0) = false from beq_false_of_ne (by omega), show (st.1.getD p 0 == -1) = false from beq_false_of_ne (by omega), if_neg (by decide), if_pos (by omega), show (((matesOf n p 0 l).length : Int) != 1) = false by rw [h1]; decide]
      exact fin
theorem PagesMates (a0 : Int) (l1 : List (S44)) (w0 : (Lit.int .i64 a0).wf = true) (w1 : (l1.length ≤ maxLen ∧ l1.length * 16 ≤ 140737488351232 ∧ ∀ x ∈ l1, ok44 x)) : ∃ k, joistlaw13_PagesMates.f k a0 l1 = some true := by
  obtain ⟨K, hK⟩ : ∃ K : Nat, K = 100000 := ⟨_, rfl⟩
  refine ⟨K, ?_⟩
  unfold joistlaw13_PagesMates.f
  have hok : okL l1 = true := okL_of w1.2.2 (by omega)
  rw [small_at (by omega), kinds_is hok]
  simp only [Option.bind_some]
  obtain ⟨K, rfl⟩ : ∃ m, K = m + 1 := ⟨K - 1, by omega⟩
  by_cases hl : (l1.length : Int) > 200
  · rw [if_pos hl]; simp only [joistlaw13_PagesMates.j0, if_true]
  · rw [if_neg hl]
    cases hla : laid a0 l1 with
    | none => simp only [joistlaw13_PagesMates.j0, Bool.not_false, if_true]
    | some st =>
      obtain ⟨h0, h1, h2, h3⟩ := laid_length hla
      obtain ⟨n, rfl⟩ : ∃ n : Nat, a0 = (n : Int) := ⟨a0.toNat, by omega⟩
      simp only [joistlaw13_PagesMates.j0, Bool.not_true, Bool.false_eq_true, if_false]
      exact mates_l0 (by omega) hok hla (by omega) n 0 K (by omega) (by omega)
end Go.Proofs.Ytlpkbekpdhaplaa.Pure
