/- What delta.Put comes to, in plain lists, and what the two laws ask of it. -/
import Derived.Test.YtlboachgeepadaaSpecD
import Derived.Test.YtlboachgeepadaaHPut
namespace Go.Proofs.Ytlboachgeepadaa.Spec
open Go.RowKit Go.Proofs.Ytlboachgeepadaa.P Go.Proofs.YtlboachgeepadaaW.PrintWords Go.Proofs.YtlboachgeepadaaW.PrintLast

theorem Ev_succ {α : Type} {F : Nat → Option α} {r : α} (h : Ev (fun k => F (k + 1)) r) : Ev F r := Ev.step (f := fun k => F (k + 1)) (fun _ => rfl) h
/-- What is put. -/
def putD (l0 : List Int) (o : Bool) (a0 a1 a2 a3 : Int) (l4 : List S61) (l5 : List Int) (a6 a7 a8 a9 : Int) (l10 : List S63) (a11 : Int) : List Int × Bool × Int × Int × Int × Int × (List (S61)) × List Int × Int × Int × Int × Int × (List (S63)) × Int × Int :=
  if mayD l0 o = true then (if o = true then ([], false, 0, 0, 0, 0, [], [], 0, 0, 0, 0, [], 0, 4) else ([], false, a0, a1, a2, a3, l4, keepL l0 l5, a6, a7, a8, a9, l10, a11, 0)) else ([], false, 0, 0, 0, 0, [], [], 0, 0, 0, 0, [], 0, 1)
theorem few_put {l0 : List Int} {l4 : List S61} {l5 : List Int} {l10 : List S63} (h0 : l0.length ≤ 100000) (h4 : l4.length ≤ 100000) (h4v : ∀ x ∈ l4, x.f1.length ≤ 100000) (h5 : l5.length ≤ 100000) (h10 : l10.length ≤ 100000) (h10v : ∀ x ∈ l10, x.f1.length ≤ 100000) : fewPut l0 l4 l5 l10 = true := by
  simp only [fewPut, Bool.and_eq_true, decide_eq_true_eq, List.all_eq_true]
  exact ⟨h0, h4, h5, h10, h4v, h10v⟩
theorem put_eq {l0 : List Int} (o : Bool) (a0 a1 a2 a3 a6 a7 a8 a9 a11 : Int) {l4 : List S61} {l5 : List Int} {l10 : List S63} (h : fewPut l0 l4 l5 l10 = true) :
    delta_Put.f l0 o a0 a1 a2 a3 l4 l5 a6 a7 a8 a9 l10 a11 = some (putD l0 o a0 a1 a2 a3 l4 l5 a6 a7 a8 a9 l10 a11) := by
  unfold delta_Put.f putD
  rw [if_pos h]
  by_cases hm : mayD l0 o = true
  · rw [if_pos hm, if_pos hm]
    by_cases ho : o = true
    · rw [if_pos ho, if_pos ho]
    · rw [if_neg ho, if_neg ho]
  · rw [if_neg hm, if_neg hm]
theorem keep_len (L xs : List Int) : (keepL L xs).length ≤ xs.length := List.length_filter_le _ _
theorem keep_nil (xs : List Int) : keepL [] xs = xs := keep_all (fun x _ => by simp [hasB])
theorem same19_refl (l : List Int) (o : Bool) (hl : l.length ≤ 100000) : Ev (fun k => drydockref19_Same.f k l o l o) true := by
  have := same_ev (m := l) o o hl
  rwa [decide_eq_true ⟨rfl, rfl⟩] at this
theorem note_len (l : List Int) (o : Bool) (a : Int) : (noteD l o a).1.length ≤ l.length + 1 := by
  unfold noteD
  split
  · split
    · simp
    · split
      · simp
      · simp
  · simp
/-- What is put is few. -/
theorem putD_few {l0 : List Int} (o : Bool) (a0 a1 a2 a3 a6 a7 a8 a9 a11 : Int) {l4 : List S61} {l5 : List Int} {l10 : List S63} (h4 : l4.length ≤ 100000) (h4v : ∀ x ∈ l4, x.f1.length ≤ 100000) (h5 : l5.length ≤ 100000) (h10 : l10.length ≤ 100000) (h10v : ∀ x ∈ l10, x.f1.length ≤ 100000) :
    (putD l0 o a0 a1 a2 a3 l4 l5 a6 a7 a8 a9 l10 a11).1.length ≤ 100000 ∧ (putD l0 o a0 a1 a2 a3 l4 l5 a6 a7 a8 a9 l10 a11).2.2.2.2.2.2.1.length ≤ 100000 ∧ (∀ x ∈ (putD l0 o a0 a1 a2 a3 l4 l5 a6 a7 a8 a9 l10 a11).2.2.2.2.2.2.1, x.f1.length ≤ 100000) ∧ (putD l0 o a0 a1 a2 a3 l4 l5 a6 a7 a8 a9 l10 a11).2.2.2.2.2.2.2.1.length ≤ 100000 ∧ (putD l0 o a0 a1 a2 a3 l4 l5 a6 a7 a8 a9 l10 a11).2.2.2.2.2.2.2.2.2.2.2.2.1.length ≤ 100000 ∧ ∀ x ∈ (putD l0 o a0 a1 a2 a3 l4 l5 a6 a7 a8 a9 l10 a11).2.2.2.2.2.2.2.2.2.2.2.2.1, x.f1.length ≤ 100000 := by
  have hk := keep_len l0 l5
  unfold putD
  by_cases hm : mayD l0 o = true
  · rw [if_pos hm]
    by_cases ho : o = true
    · rw [if_pos ho]; simp
    · rw [if_neg ho]
      exact ⟨by simp, h4, h4v, Nat.le_trans hk h5, h10, h10v⟩
  · rw [if_neg hm]; simp
theorem few03_of {l : List S61} (h : few03 l = true) : l.length ≤ 100000 ∧ ∀ x ∈ l, x.f1.length ≤ 100000 := by
  simp only [few03, Bool.and_eq_true, decide_eq_true_eq, List.all_eq_true] at h
  exact ⟨by omega, fun x hx => by have := h.2 x hx; omega⟩
theorem few05_of {l : List S63} (h : few05 l = true) : l.length ≤ 100000 ∧ ∀ x ∈ l, x.f1.length ≤ 100000 := by
  simp only [few05, Bool.and_eq_true, decide_eq_true_eq, List.all_eq_true] at h
  exact ⟨by omega, fun x hx => by have := h.2 x hx; omega⟩

end Go.Proofs.Ytlboachgeepadaa.Spec
