/- What link.May and link.may come to, in plain lists. -/
import Derived.Test.YtoehingbhmaidaaPx4
import Derived.Test.YtoehingbhmaidaaHFind
namespace Go.Proofs.Ytoehingbhmaidaa.Spec
open Go.RowKit Go.Proofs.Ytoehingbhmaidaa.P Go.Proofs.YtoehingbhmaidaaW.PrintWords Go.Proofs.YtoehingbhmaidaaW.PrintLast

theorem wrap_up {i : Nat} (h : i < 9223372036854775807) : wrap64 ((i : Int) + 1) = ((i + 1 : Nat) : Int) := by
  unfold wrap64; omega
theorem ite_ev {α : Type} {c : Prop} [Decidable c] {g f : Nat → Option α} {r : α} (h : c → Ev g r) (h' : ¬ c → Ev f r) : Ev (fun k => if c then g k else f k) r := by
  by_cases hc : c
  · simpa only [if_pos hc] using h hc
  · simpa only [if_neg hc] using h' hc
theorem ev_now {α : Type} {a r : α} (h : a = r) : Ev (fun _ => some a) r := h ▸ Ev.now a

/-- May a link be? -/
def oneL (x : S26) : Bool := decide (1 ≤ x.f0) && (decide (0 ≤ x.f1) && decide (x.f1 ≤ 1023))
theorem one_f (a b : Int) : link_one.f a b = some (oneL ⟨a, b⟩) := by
  unfold link_one.f oneL
  by_cases h1 : 1 ≤ a
  · by_cases h2 : 0 ≤ b <;> simp [h1, h2]
  · simp [h1]
/-- May a hook be? -/
def mayH (rev : Int) (l : List S26) : Bool := decide ((l.map (·.f0)).Nodup) && (l.all oneL && (decide (0 ≤ rev) && (decide (rev ≤ 1073741824) && decide (l.length ≤ 4))))
theorem fx_neg {l : List S26} {a : Int} : ∀ {i : Nat}, a ∉ l.map (·.f0) → fx l a i = -1 := by
  induction l with
  | nil => intros; rfl
  | cons x t ih =>
    intro i h
    simp only [List.map_cons, List.mem_cons, not_or] at h
    rw [fx_cons, if_neg (fun e => h.1 e.symm), ih h.2]
theorem fx_pos {l : List S26} {a : Int} : ∀ {i : Nat}, a ∈ l.map (·.f0) → ∃ j, ∃ h : j < l.length, fx l a i = ((i + j : Nat) : Int) ∧ l[j].f0 = a ∧ a ∉ (l.take j).map (·.f0) := by
  induction l with
  | nil => intro i h; cases h
  | cons x t ih =>
    intro i h
    rw [fx_cons]
    by_cases e : x.f0 = a
    · rw [if_pos e]; exact ⟨0, by simp, rfl, e, by simp⟩
    · rw [if_neg e]
      have hm : a ∈ t.map (·.f0) := by
        simp only [List.map_cons, List.mem_cons] at h
        exact h.resolve_left fun z => e z.symm
      obtain ⟨j, hj, h1, h2, h3⟩ := ih (i := i + 1) hm
      refine ⟨j + 1, by simpa using hj, by rw [h1]; congr 1; omega, h2, ?_⟩
      simp only [List.take_succ_cons, List.map_cons, List.mem_cons, not_or]
      exact ⟨fun z => e z.symm, h3⟩
theorem fx_at {l : List S26} {i : Nat} (h : i < l.length) : fx l l[i].f0 0 = (i : Int) ↔ l[i].f0 ∉ (l.take i).map (·.f0) := by
  have hm : l[i].f0 ∈ l.map (·.f0) := List.mem_map_of_mem (List.getElem_mem h)
  obtain ⟨j, hj, h1, h2, h3⟩ := fx_pos (i := 0) hm
  rw [h1, Nat.zero_add]
  constructor
  · intro e
    have : j = i := by omega
    subst this
    exact h3
  · intro hn
    rcases Nat.lt_trichotomy j i with hlt | rfl | hgt
    · exact absurd (by rw [← h2]; exact List.mem_map_of_mem (List.mem_iff_getElem.2 ⟨j, by simp; omega, by rw [List.getElem_take]⟩)) hn
    · rfl
    · exact absurd (List.mem_map_of_mem (f := (·.f0)) (List.mem_iff_getElem.2 ⟨i, by simp; omega, by rw [List.getElem_take]⟩ : l[i] ∈ l.take j)) h3
theorem nodup_at {l : List S26} : (l.map (·.f0)).Nodup ↔ ∀ j (h : j < l.length), l[j].f0 ∉ (l.take j).map (·.f0) := by
  constructor
  · intro hn j h hm
    obtain ⟨m, hm1, hm2⟩ := List.getElem_of_mem hm
    simp only [List.getElem_take, List.getElem_map] at hm2
    have hmj : m < j := by simp at hm1; omega
    have h3 : (l.map (·.f0))[m]'(by simp; omega) = (l.map (·.f0))[j]'(by simpa using h) := by simpa using hm2
    have := (List.getElem_inj hn).1 h3
    omega
  · intro h
    rw [List.nodup_iff_pairwise_ne, List.pairwise_iff_getElem]
    intro i j hi hj hij e
    simp only [List.length_map] at hi hj
    refine h j hj ?_
    rw [List.getElem_map, List.getElem_map] at e
    rw [← e]
    exact List.mem_map_of_mem (List.mem_iff_getElem.2 ⟨i, by simp; omega, by rw [List.getElem_take]⟩)
theorem may_l {l : List S26} {rev : Int} (hl : l.length ≤ 9223372036854775807) : ∀ (d i : Nat), l.length - i = d → i ≤ l.length → (∀ j (h : j < l.length), j < i → oneL l[j] = true ∧ l[j].f0 ∉ (l.take j).map (·.f0)) → Ev (fun k => link_May.l0 k l (l.length : Int) i rev l) (mayH rev l) := by
  intro d
  induction d with
  | zero =>
    intro i hd hi hb
    have hn : (l.map (·.f0)).Nodup := nodup_at.2 fun j h => (hb j h (by omega)).2
    have ha : l.all oneL = true := by
      rw [List.all_eq_true]
      intro x hx
      obtain ⟨j, hj, rfl⟩ := List.getElem_of_mem hx
      exact (hb j hj (by omega)).1
    refine Ev.step (f := fun _ => _) (fun k => by simp only [link_May.l0]; rw [if_neg (by omega)]) ?_
    unfold mayH
    rw [decide_eq_true hn, ha]
    simp only [Bool.true_and]
    refine ite_ev (fun h => ?_) (fun h => ev_now (by simp [h]))
    refine ite_ev (fun h' => ev_now ?_) (fun h' => ev_now (by simp [h']))
    simp only [ge_iff_le] at h
    simp only [h, h', decide_true, Bool.true_and]
    exact decide_eq_decide.2 (by omega)
  | succ d ih =>
    intro i hd hi hb
    have hlt : i < l.length := by omega
    refine Ev.step (f := fun k => if oneL l[i] = true then (if fx l l[i].f0 0 = (i : Int) then link_May.l0 k l (l.length : Int) ((i + 1 : Nat) : Int) rev l else some false) else some false) (fun k => by
      simp only [link_May.l0]
      rw [if_pos (by omega), if_pos (by omega), if_pos (by omega), rd_T26_nat l i hlt, wrap_up (by omega), one_f]
      rfl) ?_
    refine ite_ev (fun h1 => ite_ev (fun h2 => ?_) (fun h2 => ev_now ?_)) (fun h1 => ev_now ?_)
    · refine ih (i + 1) (by omega) (by omega) fun j hj hji => ?_
      rcases Nat.lt_succ_iff_lt_or_eq.1 hji with h3 | rfl
      · exact hb j hj h3
      · exact ⟨h1, (fx_at hj).1 h2⟩
    · have : ¬ (l.map (·.f0)).Nodup := fun hn => h2 ((fx_at hlt).2 (nodup_at.1 hn i hlt))
      simp [mayH, this]
    · have : ¬ l.all oneL = true := fun ha => h1 (List.all_eq_true.1 ha _ (List.getElem_mem hlt))
      simp only [Bool.not_eq_true] at this
      simp [mayH, this]
theorem may_ev {l : List S26} (rev : Int) (hl : l.length ≤ 9223372036854775807) : Ev (fun k => link_May.f k rev l) (mayH rev l) := by
  have := may_l (rev := rev) hl l.length 0 (by omega) (by omega) (fun j h h0 => absurd h0 (Nat.not_lt_zero j))
  simpa [link_May.f] using this
/-- Why a hook may not be changed. -/
def mayE (rev : Int) (l : List S26) (x : S26) (r : Int) : Int := if mayH rev l = true ∧ oneL x = true then (if r = rev then (if r = 1073741824 then 2 else 0) else 5) else 1
theorem ite_ev2 {α : Type} {c : Prop} [Decidable c] {g f : Nat → Option α} {r s : α} (h : c → Ev g r) (h' : ¬ c → Ev f s) : Ev (fun k => if c then g k else f k) (if c then r else s) := by
  by_cases hc : c
  · simpa only [if_pos hc] using h hc
  · simpa only [if_neg hc] using h' hc
theorem maye_j {l : List S26} (rev r : Int) : Ev (fun k => link_may.j0 k r false rev l) (if r = rev then (if r = 1073741824 then 2 else 0) else 5) := by
  refine Ev.step (f := fun _ => if r = rev then (if r = 1073741824 then some 2 else some 0) else some 5) (fun k => by simp only [link_may.j0, Bool.false_eq_true, if_false]) ?_
  exact ite_ev2 (fun _ => ite_ev2 (fun _ => Ev.now _) (fun _ => Ev.now _)) (fun _ => Ev.now _)
theorem maye_t {l : List S26} (rev r : Int) : Ev (fun k => link_may.j0 k r true rev l) 1 :=
  Ev.step (f := fun _ => some 1) (fun k => by simp only [link_may.j0, if_true]) (Ev.now _)
theorem maye_ev {l : List S26} (rev : Int) (x : S26) (r : Int) (hl : l.length ≤ 9223372036854775807) : Ev (fun k => link_may.f k rev l x.f0 x.f1 r) (mayE rev l x r) := by
  unfold link_may.f mayE
  refine Ev.bind (may_ev rev hl) ?_
  cases hm : mayH rev l with
  | true =>
    simp only [if_true, one_f, Option.bind_some, true_and]
    cases ho : oneL x with
    | true =>

      simp only [if_true, Bool.not_true]
      exact maye_j rev r
    | false =>

      simp only [Bool.false_eq_true, if_false, Bool.not_false]
      exact maye_t rev r
  | false =>
    simp only [Bool.false_eq_true, if_false, Bool.not_false, false_and]
    exact maye_t rev r

end Go.Proofs.Ytoehingbhmaidaa.Spec
