/- LinkTells -/
import Derived.Test.YtoehingbhmaidaaPx19 -- the law
import Derived.Test.YtoehingbhmaidaaSpecG
namespace Go.Proofs.Ytoehingbhmaidaa.Pure
open Go.Proofs.Ytoehingbhmaidaa.Spec Go.RowKit Go.Proofs.Ytoehingbhmaidaa.P Go.Proofs.YtoehingbhmaidaaW.PrintWords Go.Proofs.YtoehingbhmaidaaW.PrintLast

theorem LinkTells : ∀ (a0_0 : Int) (l0_1 : List (S26)) (a1_0 : Int) (a1_1 : Int) (a2 : Int) (a3 : Int) (a4 : Int), (((Lit.int .i64 a0_0).wf = true) ∧ (l0_1.length ≤ 9223372036854775807 ∧ ∀ x_ ∈ l0_1, (((Lit.int .i64 x_.f0).wf = true) ∧ ((Lit.int .i64 x_.f1).wf = true)))) → (((Lit.int .i64 a1_0).wf = true) ∧ ((Lit.int .i64 a1_1).wf = true)) → ((Lit.int .i64 a2).wf = true) → ((Lit.int .i64 a3).wf = true) → ((Lit.int .i64 a4).wf = true) → ∃ k, drydocklaw16_LinkTells.f k a0_0 l0_1 a1_0 a1_1 a2 a3 a4 = some true := by
  intro rev l x0 x1 p b r ⟨_, hl, _⟩ _ _ _ _
  suffices h : Ev (fun k => drydocklaw16_LinkTells.f k rev l x0 x1 p b r) true from h.rounds
  unfold drydocklaw16_LinkTells.f
  refine Ev.bind awake_ev ?_
  simp only [if_true]
  by_cases h20 : (l.length : Int) > 20
  · rw [decide_eq_true h20]
    exact Ev.step (f := fun _ => some true) (fun k => by simp only [drydocklaw16_LinkTells.j0, if_true]) (Ev.now _)
  rw [decide_eq_false h20]
  have hown : drydockref16_Own.f rev l = some (rev, l) := by
    unfold drydockref16_Own.f
    rw [if_pos (by simp; omega)]; rfl
  have hA : (attS rev l ⟨x0, x1⟩ p b r).2.1.length ≤ 100000 := by
    rcases att_inv rev l ⟨x0, x1⟩ p b r with ⟨e, he, hA⟩ | ⟨hm, hp0, hp4, hx, hb, hl4, hA⟩
    · rw [hA]; simp
    · rw [hA]
      have := ins_len l (pos p l b) ⟨x0, x1⟩ (pos_le hb hp0)
      simp only; omega
  have hD : (detS rev l b r).2.1.length ≤ 100000 := by
    unfold detS
    split
    · split
      · simp
      · have := List.length_eraseIdx_le l (fx l b 0).toNat
        simp only; omega
    · simp
  have hS : (swS rev l b ⟨x0, x1⟩ r).2.1.length ≤ 100000 := by
    rcases sw_inv rev l b ⟨x0, x1⟩ r with ⟨e, he, hA⟩ | ⟨hm, _, _, hA⟩
    · rw [hA]; simp
    · rw [hA]; simp only [List.length_set]; omega
  refine Ev.step (f := fun k => (drydockref16_Own.f rev l).bind fun bt250 => _) (fun k => by simp only [drydocklaw16_LinkTells.j0, Bool.false_eq_true, if_false]; rfl) ?_
  rw [hown, det_f rev b r (by omega)]
  simp only [Option.bind_some]
  refine Ev.bind (att_ev rev ⟨x0, x1⟩ p b r hl) ?_
  refine Ev.bind (refatt_ev rev ⟨x0, x1⟩ p b r (by omega)) ?_
  refine Ev.bind (same_ev _ hA) ?_
  simp only [if_true]
  refine Ev.bind (refdet_ev rev b r (by omega)) ?_
  refine Ev.bind (same_ev _ hD) ?_
  simp only [if_true]
  refine Ev.bind (sw_ev rev b ⟨x0, x1⟩ r hl) ?_
  refine Ev.bind (refsw_ev rev b ⟨x0, x1⟩ r (by omega)) ?_
  refine Ev.bind (same_ev _ hS) ?_
  simp only [if_true]
  refine Ev.bind (at_ev rev b hl) ?_
  refine Ev.bind (refat_ev rev b (by omega)) ?_
  simp only [if_true, beq_self_eq_true]
  refine Ev.bind (same_ev rev (by omega)) ?_
  simp only [if_true]
  refine Ev.bind (may_ev rev hl) ?_
  refine Ev.bind (refmay_ev rev (by omega)) ?_
  exact ev_now (by simp)

end Go.Proofs.Ytoehingbhmaidaa.Pure
