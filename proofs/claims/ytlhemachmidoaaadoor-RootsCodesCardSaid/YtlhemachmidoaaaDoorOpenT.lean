/- Arguments that read as data are values of the print's kinds: whole numbers, bools, strings, slices and structs of them. -/
import Derived.Test.YtlhemachmidoaaaDoorP0
import Derived.SizedLaws
import Derived.ChangeArms
import Derived.Deep.Slices
import Derived.KernelRfl
namespace Go.Proofs.YtlhemachmidoaaaDoor.Open
open Go.ChangeShapes Go.WideShapes Go.Deep Go.Proofs.YtlhemachmidoaaaDoorW.PrintWords
/-- What reads as data of type t is a value of kind d, and meets ok. -/
def Opens {α : Type} (P : Program) (t : TypeId) (d : Kd α) (ok : α → Prop) : Prop :=
  ∀ {H : Type} {enc : TypeId × Value → H} {w : World} {base : Nat} {spare : Nat → Bool} {held : Bool} {fuel : Nat} {cs : List Value} {x : DataW H × List MemPlace},
    DataW.trod enc P w base spare held fuel t cs = some x → (∀ n ∈ x.1.weights P t, n ≤ reachBytes) → ∃ a, d.K w a cs ∧ ok a
section
variable {P : Program} {t e : TypeId}
theorem Opens.int {k : IntKind} (hu : P.underlying t = some (.int k)) : Opens P t (Kd.int k) (fun a => (Lit.int k a).wf = true) := by
  intro H enc w base spare held fuel cs x h _
  obtain ⟨n, rfl, _, hw⟩ := DataW.trod_int hu h
  exact ⟨n, rfl, hw⟩
theorem Opens.bool (hu : P.underlying t = some .bool) : Opens P t Kd.bool (fun _ => True) := by
  intro H enc w base spare held fuel cs x h _
  obtain ⟨n, rfl, _⟩ := DataW.trod_bool hu h
  exact ⟨n, rfl, trivial⟩
theorem Opens.string (hu : P.underlying t = some .string) : Opens P t Kd.string (fun a => a.size ≤ 140737488351232) := by
  intro H enc w base spare held fuel cs x h hw
  obtain ⟨n, rfl, rfl, _⟩ := DataW.trod_string hu h
  refine ⟨n, rfl, ?_⟩
  have := hw n.data.toList.length (by simp [DataW.weights])
  rw [Array.length_toList] at this
  exact this
theorem weightsAll_mem {H : Type} {e : TypeId} : ∀ {l : List (DataW H)} {d : DataW H} {n : Nat}, d ∈ l → n ∈ d.weights P e → n ∈ DataW.weightsAll P e l
  | d0 :: l, d, n, hd, hn => by
    simp only [DataW.weightsAll, List.mem_append]
    rcases List.mem_cons.1 hd with rfl | hd
    · exact .inl hn
    · exact .inr (weightsAll_mem hd hn)
theorem Opens.slice {α : Type} {d : Kd α} {ok : α → Prop} {B : Nat} (hu : P.underlying t = some (.slice e)) (hs : P.cellsOf e = d.sz) (hB : P.bytesOf e = B) (h : Opens P e d ok) :
    Opens P t (Kd.slice e d) (fun l => l.length ≤ maxLen ∧ l.length * B ≤ 140737488351232 ∧ ∀ x ∈ l, ok x) := by
  intro H enc w base spare held fuel cs x hx hw
  rcases open_slice hu hx with ⟨rfl, rfl⟩ | ⟨a, len, cap, m, n, D, Pl, rfl, _, hl, hm, hmm, hx2, hi⟩
  · refine ⟨[], ⟨none, 0, rfl, Nat.le_refl _, ?_⟩, by simp, by simp, by simp⟩
    exact ⟨rfl, by simp, fun h0 => absurd h0 (by simp)⟩
  · have hlm : len ≤ m := by rw [hmm]; split <;> omega
    subst hx2
    have hmem : ∀ i, i < len → D i ∈ (List.range len).map D := fun i hi2 => List.mem_map.2 ⟨i, List.mem_range.2 hi2, rfl⟩
    have hw2 : ∀ i, i < len → ∀ n ∈ (D i).weights P e, n ≤ reachBytes := by
      intro i hi2 n hn
      refine hw n ?_
      simp only [DataW.weights, hu, List.mem_cons, List.mem_append]
      exact .inr (.inl (weightsAll_mem (hmem i hi2) hn))
    have hel : ∀ i, i < len → ∃ (y : α) (c : List Value), w.cells? base (a.add (i * P.cellsOf e)) (P.cellsOf e) = some c ∧ d.K w y c ∧ ok y := by
      intro i hi2
      obtain ⟨c, hc, ht⟩ := hi i (by omega)
      obtain ⟨y, hy, hok⟩ := h ht (hw2 i hi2)
      exact ⟨y, c, hc, hy, hok⟩
    have hwl : len * B ≤ 140737488351232 := by
      have z := hw ((((List.range len).map D).length + ((List.range (m - len)).map fun j => D (len + j)).length) * P.bytesOf e) (by simp only [DataW.weights, hu]; exact List.mem_cons_self)
      rw [List.length_map, List.length_range, List.length_map, List.length_range, hB] at z
      exact Nat.le_trans (Nat.mul_le_mul_right _ (by omega)) z
    obtain ⟨l, hll, hle⟩ : ∃ l : List α, l.length = len ∧ ∀ i y, l[i]? = some y → ∃ c, w.cells? base (a.add (i * P.cellsOf e)) (P.cellsOf e) = some c ∧ d.K w y c ∧ ok y := by
      clear hx hw hi hmm hlm hmem hw2 hwl
      induction len with
      | zero => exact ⟨[], rfl, fun i y hy => by simp at hy⟩
      | succ len ih =>
        obtain ⟨l, hll, hle⟩ := ih (by omega) (fun i hi2 => hel i (by omega))
        obtain ⟨y, c, h1, h2, h3⟩ := hel len (by omega)
        refine ⟨l ++ [y], by rw [List.length_append, hll]; rfl, fun i z hz => ?_⟩
        rcases Nat.lt_or_ge i l.length with hlt | hge
        · rw [List.getElem?_append_left hlt] at hz
          exact hle i z hz
        · have hi3 : i = len := by
            have := (List.getElem?_eq_some_iff.1 hz).1
            rw [List.length_append, List.length_singleton] at this
            omega
          subst hi3
          have hz2 : y = z := by
            rw [List.getElem?_append_right hge, hll, Nat.sub_self] at hz
            exact Option.some.inj hz
          subst hz2
          exact ⟨c, h1, h2, h3⟩
    have hmx : len ≤ maxLen := Nat.le_trans hl hm
    refine ⟨l, ⟨some a, cap, by rw [hll], by omega, rfl, by rw [hll]; unfold maxLen at hmx; omega, fun _ => ⟨a, rfl, fun j p hp => ?_⟩⟩, by omega, by rw [hll]; exact hwl, fun x hx => ?_⟩
    · obtain ⟨c, h1, h2, _⟩ := hle j p hp
      obtain ⟨_, hcl, hat⟩ := World.cells?_some h1
      refine ⟨c, by rw [hcl, hs], h2, fun i u hu2 => ?_⟩
      have hic : i < c.length := (List.getElem?_eq_some_iff.1 hu2).1
      rw [← hs, ← Go.Deep.add_add, hat i (by omega)]
      exact hu2
    · obtain ⟨j, hj, rfl⟩ := List.mem_iff_getElem.1 hx
      obtain ⟨_, _, _, h3⟩ := hle j _ (List.getElem?_eq_getElem hj)
      exact h3
/-- A struct's fields, from cell off on. -/
def OpensF {α : Type} (P : Program) (l : List Field) (off : Nat) (d : Kd α) (ok : α → Prop) : Prop :=
  ∀ {H : Type} {enc : TypeId × Value → H} {w : World} {base : Nat} {spare : Nat → Bool} {held : Bool} {n : Nat} {cs : List Value} {xs : List (DataW H × List MemPlace)},
    xs.length = l.length → (∀ (i : Nat) (f : Field), l[i]? = some f → DataW.trod enc P w base spare held n f.type ((cs.drop f.offset).take (P.cellsOf f.type)) = xs[i]?) →
    (∀ m ∈ DataW.weightsEach P (l.map (·.type)) (xs.map (·.1)), m ≤ reachBytes) → cs.length = off + d.sz → ∃ a, d.K w a (cs.drop off) ∧ ok a
theorem OpensF.one {α : Type} {f : Field} {off : Nat} {d : Kd α} {ok : α → Prop} (ho : f.offset = off) (hs : P.cellsOf f.type = d.sz) (h : Opens P f.type d ok) : OpensF P [f] off d ok := by
  intro H enc w base spare held n cs xs hl hf hw hlen
  match xs, hl with
  | [x], _ =>
    have h0 := hf 0 f rfl
    rw [ho, hs, List.take_of_length_le (by rw [List.length_drop]; omega)] at h0
    exact h h0 (fun m hm => hw m (by simp [DataW.weightsEach, hm]))
theorem OpensF.cons {α β : Type} {f : Field} {l : List Field} {off : Nat} {d : Kd α} {d' : Kd β} {ok : α → Prop} {ok' : β → Prop} (ho : f.offset = off) (hs : P.cellsOf f.type = d.sz) (h : Opens P f.type d ok) (h' : OpensF P l (off + d.sz) d' ok') :
    OpensF P (f :: l) off (Kd.pair d d') (fun x => ok x.1 ∧ ok' x.2) := by
  intro H enc w base spare held n cs xs hl hf hw hlen
  match xs, hl with
  | x :: xs, hl =>
    have h0 := hf 0 f rfl
    rw [ho, hs] at h0
    simp only [List.map_cons, DataW.weightsEach, List.mem_append] at hw
    have hlen' : cs.length = off + d.sz + d'.sz := by rw [hlen]; simp [Kd.pair]; omega
    obtain ⟨a, ha, hok⟩ := h h0 (fun m hm => hw m (.inl hm))
    obtain ⟨b, hb, hok'⟩ := h' (xs := xs) (cs := cs) (by simpa using hl) (fun i g hg => hf (i + 1) g (by simpa using hg)) (fun m hm => hw m (.inr hm)) hlen'
    refine ⟨(a, b), ⟨_, _, ?_, ha, hb⟩, hok, hok'⟩
    rw [← List.drop_drop, List.take_append_drop]
theorem Opens.struct {α β : Type} {fs : Array Field} {d : Kd α} {ok : α → Prop} {f : β → α} (g : α → β) (hg : ∀ a, f (g a) = a) (hu : P.underlying t = some (.struct fs)) (hs : P.cellsOf t = d.sz) (h : OpensF P fs.toList 0 d ok) : Opens P t (Kd.iso d f) (fun b => ok (f b)) := by
  intro H enc w base spare held fuel cs x hx hw
  obtain ⟨xs, n, _, rfl, hlen, hxl, hf⟩ := DataW.trod_struct hu hx
  obtain ⟨a, ha, hok⟩ := h (cs := cs) (xs := xs) (by rw [hxl, Array.length_toList]) (fun i f hi => hf i f (by rw [← Array.getElem?_toList]; exact hi)) (fun m hm => hw m (by simp only [DataW.weights, hu]; exact hm)) (by rw [hlen, hs]; omega)
  exact ⟨g a, by show d.K w (f (g a)) cs; rw [hg]; exact ha, by show ok (f (g a)); rw [hg]; exact hok⟩
/-- What is said of a struct, in other words. -/
theorem Opens.imp {α : Type} {d : Kd α} {ok ok' : α → Prop} (h : Opens P t d ok) (hi : ∀ a, ok a → ok' a) : Opens P t d ok' := by
  intro H enc w base spare held fuel cs x hx hw
  obtain ⟨a, ha, hok⟩ := h hx hw
  exact ⟨a, ha, hi a hok⟩
/-- An argument. -/
theorem Opens.arg {α : Type} {d : Kd α} {ok : α → Prop} {H : Type} {enc : TypeId × Value → H} {w : World} {base : Nat} {spare : Nat → Bool} {held : Bool} {v : Value} {x : DataW H} {ps : List MemPlace} {ts : List TypeId} {ds : List (DataW H)} {j : Nat} (h : Opens P t d ok)
    (hsz : (DataW.weightsEach P ts ds).all (· ≤ reachBytes) = true) (ht : ts[j]? = some t) (hd : ds[j]? = some x) (hx : DataW.Trod enc P w base spare held t v x ps) : ∃ a, d.K w a v.cells.toList ∧ ok a := by
  obtain ⟨fuel, hf⟩ := hx
  exact h hf (fun n hn => by simpa using List.all_eq_true.1 hsz _ (DataW.weights_mem_each ht hd n hn))
theorem slice_arg {α : Type} {d : Kd α} {w : World} {a : Option Addr} {len cap : Nat} {l : List α} (h : (Kd.slice e d).K w l (Value.slice a len cap).cells.toList) : len = l.length ∧ l.length ≤ cap ∧ d.C w a l.length l := by
  obtain ⟨A, c, he, hc, hr⟩ := h
  simp [Value.cells] at he
  obtain ⟨rfl, rfl, rfl⟩ := he
  exact ⟨rfl, hc, hr⟩
end
end Go.Proofs.YtlhemachmidoaaaDoor.Open
/- Arguments of this seat's own types that read as data. Printed by wip/tools/pp.py. -/
namespace Go.Proofs.YtlhemachmidoaaaDoor.Open
open Go.ChangeShapes Go.WideShapes Go.Deep Go.RowKit Go.Proofs.YtlhemachmidoaaaDoor.P Go.Proofs.YtlhemachmidoaaaDoorW.PrintWords
def ok52 (b : S52) : Prop := (Lit.int .i64 b.f0).wf = true ∧ (Lit.int .i64 b.f1).wf = true
theorem opens52 : Opens Tryd.prog 52 k52 ok52 := Opens.struct (fun x => ⟨x.1, x.2⟩) (fun _ => rfl) Tryd.underlying52 (by kernel_rfl) (OpensF.cons rfl (by kernel_rfl) (Opens.int Tryd.underlying3) (OpensF.one rfl (by kernel_rfl) (Opens.int Tryd.underlying3)))
def ok56 (b : S56) : Prop := b.f0.size ≤ 140737488351232 ∧ ok52 b.f1
theorem opens56 : Opens Tryd.prog 56 k56 ok56 := Opens.struct (fun x => ⟨x.1, x.2⟩) (fun _ => rfl) Tryd.underlying56 (by kernel_rfl) (OpensF.cons rfl (by kernel_rfl) (Opens.string Tryd.underlying9) (OpensF.one rfl (by kernel_rfl) opens52))
end Go.Proofs.YtlhemachmidoaaaDoor.Open
