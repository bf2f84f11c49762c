/- What reads as data in memory reads as a value of the print's kinds: whole numbers, bools, slices, structs, arrays. -/
import Derived.Test.YtlboachgeepadaaWWords
import Derived.Deep.Slices
import Derived.ChangeArms
import Derived.OpenShut
import Derived.WideShapes
import Derived.DataReads
namespace Go.Proofs.Ytlboachgeepadaa.Rd
open Go.RowKit Go.Proofs.YtlboachgeepadaaW.PrintWords Go.WideShapes
set_option linter.unusedVariables false

/-- What reads as data at type t is of kind d, and Φ holds of it. -/
def Opens {α : Type} (P : Program) (d : Kd α) (t : TypeId) (Φ : α → Prop) : Prop :=
  P.cellsOf t = d.sz ∧ ∀ {H : Type} (enc : TypeId × Value → H) (w : World) (fuel : Nat) (cs : List Value) (y : DataW H × List MemPlace), DataW.trod enc P w 0 (fun _ => true) true fuel t cs = some y → ∃ x, d.K w x cs ∧ Φ x
theorem opens_int {P : Program} {k : IntKind} {t : TypeId} (ht : P.underlying t = some (.int k)) (hc : P.cellsOf t = 1) : Opens P (Kd.int k) t (fun n => (Lit.int k n).wf = true) :=
  ⟨hc, fun enc w fuel cs y h => by
    obtain ⟨n, rfl, _, hw⟩ := DataW.trod_int ht h
    exact ⟨n, rfl, hw⟩⟩
theorem opens_bool {P : Program} {t : TypeId} (ht : P.underlying t = some .bool) (hc : P.cellsOf t = 1) : Opens P Kd.bool t (fun _ => True) :=
  ⟨hc, fun enc w fuel cs y h => by
    obtain ⟨b, rfl, _⟩ := DataW.trod_bool ht h
    exact ⟨b, rfl, trivial⟩⟩
theorem exists_list {α : Type} {p : Nat → α → Prop} : ∀ (n : Nat), (∀ i, i < n → ∃ x, p i x) → ∃ l : List α, l.length = n ∧ ∀ i x, l[i]? = some x → p i x
  | 0, _ => ⟨[], rfl, fun i x h => by simp at h⟩
  | n + 1, h => by
    obtain ⟨l, hl, hp⟩ := exists_list n (fun i hi => h i (Nat.lt_succ_of_lt hi))
    obtain ⟨x, hx⟩ := h n (Nat.lt_succ_self n)
    refine ⟨l ++ [x], by simp [hl], fun i z hz => ?_⟩
    rcases Nat.lt_or_ge i l.length with hlt | hge
    · rw [List.getElem?_append_left hlt] at hz
      exact hp i z hz
    · rw [List.getElem?_append_right hge] at hz
      have h0 : i - l.length = 0 := by
        rcases Nat.eq_zero_or_pos (i - l.length) with h0 | h0
        · exact h0
        · obtain ⟨q, hq⟩ : ∃ q, i - l.length = q + 1 := ⟨i - l.length - 1, by omega⟩
          rw [hq] at hz
          simp at hz
      rw [h0] at hz
      obtain rfl : x = z := by simpa using hz
      have : i = n := by omega
      subst this
      exact hx
theorem opens_slice {P : Program} {α : Type} {d : Kd α} {t e : TypeId} {Φ : α → Prop} (ht : P.underlying t = some (.slice e)) (hc : P.cellsOf t = 1) (he : Opens P d e Φ) : Opens P (Kd.slice e d) t (fun xs => xs.length ≤ 9223372036854775807 ∧ ∀ x ∈ xs, Φ x) :=
  ⟨hc, fun enc w fuel cs y h => by
    rcases Go.Deep.open_slice ht h with ⟨rfl, _⟩ | ⟨a, len, cap, m, n, D, Pl, rfl, _, hl, hm, hmm, _, hx⟩
    · exact ⟨[], ⟨none, 0, rfl, Nat.le_refl _, ⟨rfl, by simp, fun h => by simp at h⟩⟩, by simp, fun x hx => by cases hx⟩
    · obtain ⟨l, hll, hp⟩ := exists_list (p := fun i (x : α) => ∃ c : List Value, c.length = d.sz ∧ d.K w x c ∧ Φ x ∧ ∀ j u, c[j]? = some u → w.cell? (a.add (i * d.sz + j)) = some u) len (fun i hi => by
        obtain ⟨cs', h1, h2⟩ := hx i (by rw [hmm]; simp; omega)
        obtain ⟨x, hk, hf⟩ := he.2 enc w n cs' _ h2
        obtain ⟨_, hlen, hcell⟩ := World.cells?_some h1
        refine ⟨x, cs', by rw [hlen, he.1], hk, hf, fun j u hu => ?_⟩
        have hj : j < cs'.length := (List.getElem?_eq_some_iff.1 hu).1
        have := hcell j (by omega)
        rw [he.1, Go.Deep.add_add] at this
        rw [this]
        exact hu)
      subst hll
      refine ⟨l, ⟨some a, cap, rfl, hl, ⟨rfl, by have := hm; unfold maxLen at this; omega, fun _ => ⟨a, rfl, fun j p hj => ?_⟩⟩⟩, by have := hm; unfold maxLen at this; omega, fun x hx => ?_⟩
      · obtain ⟨c, h1, h2, _, h3⟩ := hp j p hj
        exact ⟨c, h1, h2, h3⟩
      · obtain ⟨i, hi, rfl⟩ := List.getElem_of_mem hx
        obtain ⟨_, _, _, h3, _⟩ := hp i _ (List.getElem?_eq_getElem hi)
        exact h3⟩
/-- The same of a struct's fields, from a place on. -/
def OpensF {α : Type} (P : Program) (d : Kd α) (fs : List Field) (off : Nat) (Φ : α → Prop) : Prop :=
  ∀ {H : Type} (enc : TypeId × Value → H) (w : World) (fuel : Nat) (cs : List Value), (∀ f ∈ fs, ∃ y, DataW.trod enc P w 0 (fun _ => true) true fuel f.type ((cs.drop f.offset).take (P.cellsOf f.type)) = some y) → cs.length = off + d.sz → ∃ x, d.K w x (cs.drop off) ∧ Φ x
theorem opensF_last {P : Program} {α : Type} {d : Kd α} {f : Field} {off : Nat} {Φ : α → Prop} (ho : f.offset = off) (h : Opens P d f.type Φ) : OpensF P d [f] off Φ := fun enc w fuel cs hf hl => by
  obtain ⟨y, hy⟩ := hf f (by simp)
  rw [ho, h.1, List.take_of_length_le (by simp; omega)] at hy
  exact h.2 enc w fuel _ y hy
theorem opensF_cons {P : Program} {α β : Type} {a : Kd α} {b : Kd β} {f : Field} {fs : List Field} {off : Nat} {Φ : α → Prop} {Ψ : β → Prop} (ho : f.offset = off) (h : Opens P a f.type Φ) (hr : OpensF P b fs (off + a.sz) Ψ) : OpensF P (Kd.pair a b) (f :: fs) off (fun x => Φ x.1 ∧ Ψ x.2) := fun enc w fuel cs hf hl => by
  have hs : (Kd.pair a b).sz = a.sz + b.sz := rfl
  obtain ⟨y, hy⟩ := hf f (by simp)
  rw [ho, h.1] at hy
  obtain ⟨x, hx, px⟩ := h.2 enc w fuel _ y hy
  obtain ⟨z, hz, pz⟩ := hr enc w fuel cs (fun g hg => hf g (by simp [hg])) (by omega)
  refine ⟨(x, z), ⟨(cs.drop off).take a.sz, cs.drop (off + a.sz), ?_, hx, hz⟩, px, pz⟩
  rw [← List.drop_drop, List.take_append_drop]
theorem opens_struct {P : Program} {α β : Type} {d : Kd α} {t : TypeId} {fs : Array Field} {Φ : α → Prop} (ht : P.underlying t = some (.struct fs)) (hc : P.cellsOf t = d.sz) (h : OpensF P d fs.toList 0 Φ) (f : β → α) (g : α → β) (hg : ∀ y, f (g y) = y) : Opens P (Kd.iso d f) t (fun x => Φ (f x)) :=
  ⟨hc, fun enc w fuel cs y hy => by
    obtain ⟨xs, n, _, _, hl, hxl, hx⟩ := DataW.trod_struct ht hy
    obtain ⟨x, hk, hp⟩ := h enc w n cs (fun q hq => by
      obtain ⟨i, hi, rfl⟩ := List.getElem_of_mem hq
      have hi' : i < fs.size := by simpa using hi
      have := hx i fs[i] (by simp [hi'])
      refine ⟨xs[i]'(by omega), ?_⟩
      rw [List.getElem?_eq_getElem (by omega)] at this
      simpa using this) (by omega)
    refine ⟨g x, ?_, (show Φ (f (g x)) by rw [hg]; exact hp)⟩
    show d.K w (f (g x)) cs
    rw [hg]
    simpa using hk⟩
theorem opens_struct0 {P : Program} {α : Type} {d : Kd α} {t : TypeId} {fs : Array Field} {Φ : α → Prop} (ht : P.underlying t = some (.struct fs)) (hc : P.cellsOf t = d.sz) (h : OpensF P d fs.toList 0 Φ) : Opens P d t Φ := by
  obtain ⟨h1, h2⟩ := opens_struct ht hc h (fun x => x) (fun x => x) (fun _ => rfl)
  exact ⟨h1, h2⟩
/-- The same of an array's elements, from a place on. -/
def OpensA {α : Type} (P : Program) (d : Kd α) (e : TypeId) (n : Nat) (off : Nat) (Φ : α → Prop) : Prop :=
  ∀ {H : Type} (enc : TypeId × Value → H) (w : World) (fuel : Nat) (cs : List Value), (∀ i, i < n → ∃ y, DataW.trod enc P w 0 (fun _ => true) true fuel e ((cs.drop (off + i * P.cellsOf e)).take (P.cellsOf e)) = some y) → cs.length = off + d.sz → ∃ x, d.K w x (cs.drop off) ∧ Φ x
theorem opensA_last {P : Program} {α : Type} {d : Kd α} {e : TypeId} {off : Nat} {Φ : α → Prop} (h : Opens P d e Φ) : OpensA P d e 1 off Φ := fun enc w fuel cs hf hl => by
  obtain ⟨y, hy⟩ := hf 0 (by omega)
  rw [Nat.zero_mul, Nat.add_zero, h.1, List.take_of_length_le (by simp; omega)] at hy
  exact h.2 enc w fuel _ y hy
theorem opensA_cons {P : Program} {α β : Type} {a : Kd α} {b : Kd β} {e : TypeId} {n off : Nat} {Φ : α → Prop} {Ψ : β → Prop} (h : Opens P a e Φ) (hr : OpensA P b e n (off + a.sz) Ψ) : OpensA P (Kd.pair a b) e (n + 1) off (fun x => Φ x.1 ∧ Ψ x.2) := fun enc w fuel cs hf hl => by
  have hs : (Kd.pair a b).sz = a.sz + b.sz := rfl
  obtain ⟨y, hy⟩ := hf 0 (by omega)
  rw [Nat.zero_mul, Nat.add_zero, h.1] at hy
  obtain ⟨x, hx, px⟩ := h.2 enc w fuel _ y hy
  obtain ⟨z, hz, pz⟩ := hr enc w fuel cs (fun i hi => by
    obtain ⟨y, hy⟩ := hf (i + 1) (by omega)
    refine ⟨y, ?_⟩
    rw [← hy, Nat.add_mul, Nat.one_mul, h.1, Nat.add_assoc, Nat.add_comm (i * a.sz) a.sz]) (by omega)
  refine ⟨(x, z), ⟨(cs.drop off).take a.sz, cs.drop (off + a.sz), ?_, hx, hz⟩, px, pz⟩
  rw [← List.drop_drop, List.take_append_drop]
theorem opens_array {P : Program} {α β : Type} {d : Kd α} {t e : TypeId} {n : Nat} {Φ : α → Prop} (ht : P.underlying t = some (.array n e)) (hc : P.cellsOf t = d.sz) (h : OpensA P d e n 0 Φ) (f : β → α) (g : α → β) (hg : ∀ y, f (g y) = y) : Opens P (Kd.iso d f) t (fun x => Φ (f x)) :=
  ⟨hc, fun enc w fuel cs y hy => by
    obtain ⟨xs, m, _, _, hl, hxl, hx⟩ := DataW.trod_array ht hy
    obtain ⟨x, hk, hp⟩ := h enc w m cs (fun i hi => by
      refine ⟨xs[i]'(by omega), ?_⟩
      rw [Nat.zero_add, hx i hi, List.getElem?_eq_getElem (by omega)]) (by omega)
    refine ⟨g x, ?_, (show Φ (f (g x)) by rw [hg]; exact hp)⟩
    show d.K w (f (g x)) cs
    rw [hg]
    simpa using hk⟩
theorem opens_array0 {P : Program} {α : Type} {d : Kd α} {t e : TypeId} {n : Nat} {Φ : α → Prop} (ht : P.underlying t = some (.array n e)) (hc : P.cellsOf t = d.sz) (h : OpensA P d e n 0 Φ) : Opens P d t Φ := by
  obtain ⟨h1, h2⟩ := opens_array ht hc h (fun x => x) (fun x => x) (fun _ => rfl)
  exact ⟨h1, h2⟩
theorem okWide_array {P : Program} {w : World} {r : Reach} {base : Nat} {t e : TypeId} {n : Nat} {v : Value} (ht : P.underlying t = some (.array n e)) (h : Value.okWide P w r base t v) : ∃ cs, v = .agg cs ∧ cs.size = P.cellsOf t := by
  simp only [Value.okWide, ht] at h
  obtain ⟨cs, h1, h2, _⟩ := h
  exact ⟨cs, h1, h2⟩
/-- A struct's or an array's value: its cells written out. -/
theorem agg_of {P : Program} {α : Type} {d : Kd α} {t : TypeId} {Φ : α → Prop} (ho : Opens P d t Φ) {H : Type} {enc : TypeId × Value → H} {w : World} {v : Value} {dd : DataW H} {p : List MemPlace} (hv : ∃ cs : Array Value, v = .agg cs) (h : DataW.Trod enc P w 0 (fun _ => true) true t v dd p) :
    ∃ x cs, v = .agg cs ∧ d.K w x cs.toList ∧ Φ x := by
  obtain ⟨cs, rfl⟩ := hv
  obtain ⟨fuel, hf⟩ := h
  obtain ⟨x, hk, hp⟩ := ho.2 enc w fuel _ _ hf
  exact ⟨x, cs, rfl, hk, hp⟩
theorem slice_of {P : Program} {α : Type} {d : Kd α} {t e : TypeId} {Φ : List α → Prop} (ho : Opens P (Kd.slice e d) t Φ) {H : Type} {enc : TypeId × Value → H} {w : World} {v : Value} {dd : DataW H} {p : List MemPlace} (hv : ∃ a n c, v = .slice a n c) (h : DataW.Trod enc P w 0 (fun _ => true) true t v dd p) :
    ∃ xs A c, v = .slice A xs.length c ∧ xs.length ≤ c ∧ d.C w A xs.length xs ∧ Φ xs := by
  obtain ⟨a, n, c, rfl⟩ := hv
  obtain ⟨fuel, hf⟩ := h
  obtain ⟨xs, ⟨A, c', hk, hl, hC⟩, hp⟩ := ho.2 enc w fuel _ _ hf
  have he : Value.slice a n c = .slice A xs.length c' := by simpa [Value.cells] using hk
  exact ⟨xs, A, c', he, hl, hC, hp⟩
end Go.Proofs.Ytlboachgeepadaa.Rd
