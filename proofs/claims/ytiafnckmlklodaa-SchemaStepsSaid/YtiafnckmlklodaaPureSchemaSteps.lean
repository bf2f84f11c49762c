/- SchemaSteps -/
import Derived.Test.YtiafnckmlklodaaPx18 -- the law
import Derived.Test.YtiafnckmlklodaaSpecB
namespace Go.Proofs.Ytiafnckmlklodaa.Pure
open Go.Proofs.Ytiafnckmlklodaa.Spec Go.RowKit Go.Proofs.Ytiafnckmlklodaa.P Go.Proofs.YtiafnckmlklodaaW.PrintWords Go.Proofs.YtiafnckmlklodaaW.PrintLast

theorem SchemaSteps : ∀ (a0_0 : Int) (a0_1 : Int) (a0_2 : Int) (a0_3 : Int) (a1_0 : Int) (a1_1 : Int) (a1_2 : Int) (a1_3 : Int), (((Lit.int .i64 a0_0).wf = true) ∧ ((Lit.int .i64 a0_1).wf = true) ∧ ((Lit.int .i64 a0_2).wf = true) ∧ ((Lit.int .i64 a0_3).wf = true)) → (((Lit.int .i64 a1_0).wf = true) ∧ ((Lit.int .i64 a1_1).wf = true) ∧ ((Lit.int .i64 a1_2).wf = true) ∧ ((Lit.int .i64 a1_3).wf = true)) → ∃ k, drydocklaw04_SchemaSteps.f k a0_0 a0_1 a0_2 a0_3 a1_0 a1_1 a1_2 a1_3 = some true := by
  intro a b c d e f g h _ _
  suffices H : Ev (fun k => drydocklaw04_SchemaSteps.f k a b c d e f g h) true from H.rounds
  unfold drydocklaw04_SchemaSteps.f
  refine Ev.bind awake_ev ?_
  refine Ev.bind (step_ev a b c d e f g h) ?_
  refine Ev.bind (step_ev e f g h a b c d) ?_
  have J : Ev (fun k => drydocklaw04_SchemaSteps.j0 k (stepS ⟨a, b, c, d⟩ ⟨e, f, g, h⟩) false a b c d e f g h) true := by
    refine Ev.step (f := fun k => (schema_May.f k a b c d).bind fun t287 => _) (fun k => by simp only [drydocklaw04_SchemaSteps.j0, Bool.false_eq_true, if_false]; rfl) ?_
    refine Ev.bind (may_ev a b c d) ?_
    cases h1 : mayS ⟨a, b, c, d⟩ with
    | false =>
      simp only [Bool.false_eq_true, if_false]
      refine ev_now ?_
      unfold stepS; rw [h1]; rfl
    | true =>
      simp only [if_true]
      refine Ev.bind (may_ev e f g h) ?_
      cases h2 : mayS ⟨e, f, g, h⟩ with
      | false =>
        simp only [Bool.false_eq_true, if_false]
        refine ev_now ?_
        unfold stepS; rw [h2]; simp
      | true =>
        simp only [if_true]
        refine Ev.bind (step_ev a b c d a b c d) ?_
        have e0 : stepS ⟨a, b, c, d⟩ ⟨a, b, c, d⟩ = 0 := by unfold stepS; rw [if_pos ⟨h1, h1⟩, if_pos rfl, if_pos ⟨rfl, rfl, rfl⟩]
        rw [e0]; simp only [if_true]
        refine ite_ev (fun hA => ite_ev (fun z0 => ite_ev (fun z1 => ite_ev (fun z2 => ite_ev (fun z3 => ?_) (fun _ => Ev.now _)) (fun _ => Ev.now _)) (fun _ => Ev.now _)) (fun _ => Ev.now _)) (fun _ => Ev.now _)
        exfalso
        unfold stepS at hA
        rw [if_pos ⟨h1, h2⟩] at hA
        simp [z0, z1, z2, z3] at hA
  rcases stepS_inv ⟨a, b, c, d⟩ ⟨e, f, g, h⟩ with ⟨hA, h1, h2, z0, z1, z2, z3⟩ | ⟨hA, h1, h2, z0, z1, z2⟩ | hA
  · have hB : stepS ⟨e, f, g, h⟩ ⟨a, b, c, d⟩ = 0 := by
      unfold stepS; rw [if_pos ⟨h2, h1⟩, if_pos z0.symm, if_pos ⟨z1.symm, z2.symm, z3.symm⟩]
    rw [hA] at J ⊢
    rw [hB]
    simp only at z0 z1 z2 z3
    simp only [z0, z1, z2, z3, if_true, show ¬ ((0 : Int) < 0) by decide, show ¬ ((0 : Int) > 2) by decide, show ¬ ((0 : Int) = 1) by decide, if_false]
    simpa only [z0, z1, z2, z3] using J
  · have hB : stepS ⟨e, f, g, h⟩ ⟨a, b, c, d⟩ = 2 := by
      unfold stepS
      simp only at z0 z1 z2
      rw [if_pos ⟨h2, h1⟩, if_pos z0.symm, if_neg (fun z => by have := z.2.2; simp only at this; omega), if_neg (by simp only; omega)]
    have hb := mayS_b h1
    simp only at z0 z1 z2 hb
    have w1 : wrap64 (d + 1) = d + 1 := wrap_s (by omega) (by omega)
    have n3 : ¬ d = h := by omega
    have jn : (a != e) = false := by simp [z0]
    rw [hA] at J ⊢
    rw [hB, w1, jn]
    simp only [z0, if_true, show ¬ ((1 : Int) < 0) by decide, show ¬ ((1 : Int) > 2) by decide, show ¬ ((1 : Int) = 0) by decide, if_false, if_neg n3, if_pos z1]
    rw [z0] at J
    refine ite_ev (fun _ => ite_ev (fun _ => J) (fun _ => J)) (fun _ => J)
  · rw [hA] at J ⊢
    simp only [if_true, show ¬ ((2 : Int) < 0) by decide, show ¬ ((2 : Int) > 2) by decide, show ¬ ((2 : Int) = 0) by decide, show ¬ ((2 : Int) = 1) by decide, if_false]
    exact J

end Go.Proofs.Ytiafnckmlklodaa.Pure
