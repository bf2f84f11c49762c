/- LinkSwap -/
import Derived.Test.YtoehingbhmaidaaPx22 -- the law
import Derived.Test.YtoehingbhmaidaaSpecE
namespace Go.Proofs.Ytoehingbhmaidaa.Pure
open Go.Proofs.Ytoehingbhmaidaa.Spec Go.RowKit Go.Proofs.Ytoehingbhmaidaa.P Go.Proofs.YtoehingbhmaidaaW.PrintWords Go.Proofs.YtoehingbhmaidaaW.PrintLast

theorem LinkSwap : ∀ (a0_0 : Int) (l0_1 : List (S26)) (a1 : Int) (a2_0 : Int) (a2_1 : Int), (((Lit.int .i64 a0_0).wf = true) ∧ (l0_1.length ≤ 9223372036854775807 ∧ ∀ x_ ∈ l0_1, (((Lit.int .i64 x_.f0).wf = true) ∧ ((Lit.int .i64 x_.f1).wf = true)))) → ((Lit.int .i64 a1).wf = true) → (((Lit.int .i64 a2_0).wf = true) ∧ ((Lit.int .i64 a2_1).wf = true)) → ∃ k, drydocklaw16_LinkSwap.f k a0_0 l0_1 a1 a2_0 a2_1 = some true := by
  intro rev l a x0 x1 ⟨_, hl, _⟩ _ _
  suffices h : Ev (fun k => drydocklaw16_LinkSwap.f k rev l a x0 x1) true from h.rounds
  unfold drydocklaw16_LinkSwap.f
  refine Ev.bind awake_ev ?_
  simp only [if_true]
  by_cases h20 : (l.length : Int) > 20
  · rw [decide_eq_true h20]
    exact Ev.step (f := fun _ => some true) (fun k => by simp only [drydocklaw16_LinkSwap.j0, if_true]) (Ev.now _)
  rw [decide_eq_false h20]
  refine Ev.step (f := fun k => (link_At.f k rev l a).bind fun bt340 => _) (fun k => by simp only [drydocklaw16_LinkSwap.j0, Bool.false_eq_true, if_false]; rfl) ?_
  refine Ev.bind (at_ev rev a hl) ?_
  refine Ev.bind (sw_ev rev a ⟨x0, x1⟩ rev hl) ?_
  rcases sw_inv rev l a ⟨x0, x1⟩ rev with ⟨e, he, hA⟩ | ⟨hm, hf, hx, hA⟩
  · rw [hA]; simp only [if_neg he]; exact ev_now rfl
  · obtain ⟨hm1, hm2, hm3, hm4⟩ := mayE_zero.1 hm
    obtain ⟨hn, _, h0, h1, _⟩ := mayH_iff.1 hm1
    obtain ⟨j, hj, ej, hj1, hj2⟩ := fx_idx hf
    rw [ej] at hx hA
    rw [Int.toNat_natCast] at hA
    have hx' : x0 ∉ l.map (·.f0) ∨ l[j].f0 = x0 := by
      rcases hx with h | h
      · exact Or.inl h
      · have h : fx l x0 0 = (j : Int) := h
        obtain ⟨m, hm, em, e1, _⟩ := fx_idx (l := l) (a := x0) (by omega)
        have : m = j := by omega
        subst this; exact Or.inr e1
    have hj' : j < (l.set j ⟨x0, x1⟩).length := by rw [List.length_set]; exact hj
    rw [hA, at_is hm1 ej]; simp only [if_true]
    have q1 : ((l.set j ⟨x0, x1⟩).length : Int) = (l.length : Int) := by rw [List.length_set]
    have q2 : ¬ (j : Int) < 0 := by omega
    have q3 : ¬ (j : Int) ≥ ((l.set j ⟨x0, x1⟩).length : Int) := by omega
    have q4 : 0 ≤ (j : Int) := by omega
    have q5 : (j : Int) < ((l.set j ⟨x0, x1⟩).length : Int) := by omega
    have q6 : (j : Int) < (l.length : Int) := by omega
    have q7 : ¬ ((!((l.set j (⟨x0, x1⟩ : S26))[j].f0 == x0) || !((l.set j (⟨x0, x1⟩ : S26))[j].f1 == x1)) = true) := by rw [List.getElem_set_self]; simp
    have q8 : rev + 1 = wrap64 (rev + 1) := (wrap_s (by omega) (by omega)).symm
    simp only [if_pos q1, if_neg q2, if_neg q3, if_pos q4, if_pos q5, if_pos q6, rd_T26_nat _ j hj', rd_T26_nat _ j hj, if_neg q7, if_pos q8]
    refine Ev.bind (sw_ev (rev + 1) x0 l[j] (rev + 1) (by rw [List.length_set]; exact hl)) ?_
    have hB := sw_back (x := ⟨x0, x1⟩) hm1 hm2 hj hx' h0 (by omega)
    simp only at hB
    rw [hB]
    by_cases h : rev + 1 = 1073741824
    · rw [if_pos h]; exact ev_now rfl
    · rw [if_neg h]; simp only [if_neg (by decide : ¬ ((0 : Int) = 2)), if_true]
      refine Ev.bind (same_ev rev (by omega)) ?_
      exact Ev.now _

end Go.Proofs.Ytoehingbhmaidaa.Pure
