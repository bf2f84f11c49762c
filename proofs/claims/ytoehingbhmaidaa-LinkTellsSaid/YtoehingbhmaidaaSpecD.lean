/- What link.Attach and link.Swap come to where they are done. -/
import Derived.Test.YtoehingbhmaidaaSpecC
namespace Go.Proofs.Ytoehingbhmaidaa.Spec
open Go.RowKit Go.Proofs.Ytoehingbhmaidaa.P Go.Proofs.YtoehingbhmaidaaW.PrintWords Go.Proofs.YtoehingbhmaidaaW.PrintLast

theorem att_inv (rev : Int) (l : List S26) (x : S26) (p b r : Int) : (∃ e, e ≠ 0 ∧ attS rev l x p b r = (0, [], e)) ∨ (mayE rev l x r = 0 ∧ 0 ≤ p ∧ p < 4 ∧ x.f0 ∉ l.map (·.f0) ∧ (p ≥ 2 → 0 ≤ fx l b 0) ∧ l.length < 4 ∧ attS rev l x p b r = (r + 1, ins l (pos p l b) x, 0)) := by
  unfold attS
  by_cases hm : mayE rev l x r = 0
  · obtain ⟨hm1, _, _, _⟩ := mayE_zero.1 hm
    have hl4 := (mayH_iff.1 hm1).2.2.2.2
    by_cases h1 : p < 0 ∨ p ≥ 4 ∨ fx l x.f0 0 ≥ 0
    · exact Or.inl ⟨1, by decide, by rw [if_pos hm, if_pos h1]⟩
    · by_cases h2 : p ≥ 2 ∧ fx l b 0 < 0
      · exact Or.inl ⟨3, by decide, by rw [if_pos hm, if_neg h1, if_pos h2]⟩
      · by_cases h3 : (l.length : Int) = 4
        · exact Or.inl ⟨4, by decide, by rw [if_pos hm, if_neg h1, if_neg h2, if_pos h3]⟩
        · exact Or.inr ⟨hm, by omega, by omega, fx_lt.1 (by omega), fun z => by omega, by omega, by rw [if_pos hm, if_neg h1, if_neg h2, if_neg h3]⟩
  · exact Or.inl ⟨_, hm, by rw [if_neg hm]⟩
theorem sw_inv (rev : Int) (l : List S26) (a : Int) (x : S26) (r : Int) : (∃ e, e ≠ 0 ∧ swS rev l a x r = (0, [], e)) ∨ (mayE rev l x r = 0 ∧ 0 ≤ fx l a 0 ∧ (x.f0 ∉ l.map (·.f0) ∨ fx l x.f0 0 = fx l a 0) ∧ swS rev l a x r = (r + 1, l.set (fx l a 0).toNat x, 0)) := by
  unfold swS
  by_cases hm : mayE rev l x r = 0
  · by_cases h1 : fx l a 0 < 0
    · exact Or.inl ⟨3, by decide, by rw [if_pos hm, if_pos h1]⟩
    · by_cases h2 : fx l x.f0 0 ≥ 0 ∧ fx l x.f0 0 ≠ fx l a 0
      · exact Or.inl ⟨1, by decide, by rw [if_pos hm, if_neg h1, if_pos h2]⟩
      · refine Or.inr ⟨hm, by omega, ?_, by rw [if_pos hm, if_neg h1, if_neg h2]⟩
        by_cases h3 : fx l x.f0 0 ≥ 0
        · exact Or.inr (Decidable.byContradiction fun z => h2 ⟨h3, z⟩)
        · exact Or.inl (fx_lt.1 (by omega))
  · exact Or.inl ⟨_, hm, by rw [if_neg hm]⟩
theorem pos_le {p : Int} {l : List S26} {b : Int} (h : p ≥ 2 → 0 ≤ fx l b 0) (h0 : 0 ≤ p) : pos p l b ≤ l.length := by
  unfold pos
  by_cases p0 : p = 0
  · rw [if_pos p0]; omega
  · rw [if_neg p0]
    by_cases p1 : p = 1
    · rw [if_pos p1]; exact Nat.le_refl _
    · rw [if_neg p1]
      obtain ⟨j, hj, e, _, _⟩ := fx_idx (h (by omega))
      rw [e, Int.toNat_natCast]
      split <;> omega
theorem at_is {rev : Int} {l : List S26} {a : Int} {n : Nat} (hm : mayH rev l = true) (h : fx l a 0 = (n : Int)) : atS rev l a = ((n : Int), true) := by
  unfold atS
  rw [if_pos ⟨hm, by omega⟩, h]
theorem mayE_stale {rev r : Int} {l : List S26} {x : S26} (h : mayH rev l = true) (hx : oneL x = true) (hr : r ≠ rev) : mayE rev l x r = 5 := by unfold mayE; rw [if_pos ⟨h, hx⟩, if_neg hr]
theorem mayE_same {rev : Int} {l : List S26} {x : S26} (h : mayH rev l = true) (hx : oneL x = true) : mayE rev l x rev = if rev = 1073741824 then 2 else 0 := by unfold mayE; rw [if_pos ⟨h, hx⟩, if_pos rfl]
theorem det_e {rev a r e : Int} {l : List S26} (h : mayE rev l ⟨1, 0⟩ r = e) (he : e ≠ 0) : detS rev l a r = (0, [], e) := by unfold detS; rw [h, if_neg he]
theorem det_ok {rev a r : Int} {l : List S26} {j : Nat} (h : mayE rev l ⟨1, 0⟩ r = 0) (he : fx l a 0 = (j : Int)) : detS rev l a r = (r + 1, l.eraseIdx j, 0) := by unfold detS; rw [if_pos h, he, if_neg (by omega), Int.toNat_natCast]
theorem sw_e {rev a r e : Int} {l : List S26} {x : S26} (h : mayE rev l x r = e) (he : e ≠ 0) : swS rev l a x r = (0, [], e) := by unfold swS; rw [h, if_neg he]

end Go.Proofs.Ytoehingbhmaidaa.Spec
