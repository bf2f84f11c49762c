/- SchemaChain -/
import Derived.Test.YtiafnckmlklodaaPx19 -- the law
import Derived.Test.YtiafnckmlklodaaSpecB
namespace Go.Proofs.Ytiafnckmlklodaa.Pure
open Go.Proofs.Ytiafnckmlklodaa.Spec Go.RowKit Go.Proofs.Ytiafnckmlklodaa.P Go.Proofs.YtiafnckmlklodaaW.PrintWords Go.Proofs.YtiafnckmlklodaaW.PrintLast

theorem SchemaChain : ∀ (a0_0 : Int) (a0_1 : Int) (a0_2 : Int) (a0_3 : Int) (a1_0 : Int) (a1_1 : Int) (a1_2 : Int) (a1_3 : Int) (a2_0 : Int) (a2_1 : Int) (a2_2 : Int) (a2_3 : Int), (((Lit.int .i64 a0_0).wf = true) ∧ ((Lit.int .i64 a0_1).wf = true) ∧ ((Lit.int .i64 a0_2).wf = true) ∧ ((Lit.int .i64 a0_3).wf = true)) → (((Lit.int .i64 a1_0).wf = true) ∧ ((Lit.int .i64 a1_1).wf = true) ∧ ((Lit.int .i64 a1_2).wf = true) ∧ ((Lit.int .i64 a1_3).wf = true)) → (((Lit.int .i64 a2_0).wf = true) ∧ ((Lit.int .i64 a2_1).wf = true) ∧ ((Lit.int .i64 a2_2).wf = true) ∧ ((Lit.int .i64 a2_3).wf = true)) → ∃ k, drydocklaw04_SchemaChain.f k a0_0 a0_1 a0_2 a0_3 a1_0 a1_1 a1_2 a1_3 a2_0 a2_1 a2_2 a2_3 = some true := by
  intro a0 a1 a2 a3 b0 b1 b2 b3 c0 c1 c2 c3 _ _ _
  suffices H : Ev (fun k => drydocklaw04_SchemaChain.f k a0 a1 a2 a3 b0 b1 b2 b3 c0 c1 c2 c3) true from H.rounds
  unfold drydocklaw04_SchemaChain.f
  have out : Ev (fun k => drydocklaw04_SchemaChain.j0 k true true a0 a1 a2 a3 c0 c1 c2 c3) true := Ev.step (f := fun _ => some true) (fun k => by simp only [drydocklaw04_SchemaChain.j0, if_true]) (Ev.now _)
  refine Ev.bind awake_ev ?_
  simp only [if_true]
  refine Ev.bind (step_ev a0 a1 a2 a3 b0 b1 b2 b3) ?_
  refine ite_ev (fun hA => ?_) (fun _ => out)
  refine Ev.bind (step_ev b0 b1 b2 b3 c0 c1 c2 c3) ?_
  by_cases hB : stepS ⟨b0, b1, b2, b3⟩ ⟨c0, c1, c2, c3⟩ = 1
  · have hn : (stepS ⟨b0, b1, b2, b3⟩ ⟨c0, c1, c2, c3⟩ != 1) = false := by rw [hB]; rfl
    rw [hn]
    obtain ⟨m1, m2, y0, y1⟩ := stepS_one hA
    obtain ⟨m3, m4, y2, y3⟩ := stepS_one hB
    have q1 := mayS_b m1
    simp only at y0 y1 y2 y3 q1
    have w1 : wrap64 (a3 + 2) = a3 + 2 := wrap_s (by omega) (by omega)
    have g1 : c3 = a3 + 2 := by omega
    have g2 : a0 = c0 := by omega
    have s1 : stepS ⟨a0, a1, a2, a3⟩ ⟨c0, c1, c2, c3⟩ = 2 := by
      unfold stepS
      rw [if_pos ⟨m1, m4⟩, if_pos g2, if_neg (fun z => by have := z.2.2; simp only at this; omega), if_neg (by simp only; omega)]
    have s2 : stepS ⟨c0, c1, c2, c3⟩ ⟨a0, a1, a2, a3⟩ = 2 := by
      unfold stepS
      rw [if_pos ⟨m4, m1⟩, if_pos g2.symm, if_neg (fun z => by have := z.2.2; simp only at this; omega), if_neg (by simp only; omega)]
    refine Ev.step (f := fun k => (schema_Step.f k a0 a1 a2 a3 c0 c1 c2 c3).bind fun t296 => _) (fun k => by simp only [drydocklaw04_SchemaChain.j0, Bool.false_eq_true, if_false, w1, if_pos g1]; rfl) ?_
    refine Ev.bind (step_ev a0 a1 a2 a3 c0 c1 c2 c3) ?_
    rw [s1]; simp only [if_true]
    refine Ev.bind (step_ev c0 c1 c2 c3 a0 a1 a2 a3) ?_
    rw [s2]; simp only [if_true, if_pos g2]
    refine Ev.bind (may_ev a0 a1 a2 a3) ?_
    rw [m1]; simp only [if_true]
    refine Ev.bind (may_ev c0 c1 c2 c3) ?_
    rw [m4]; exact Ev.now _
  · have hn : (stepS ⟨b0, b1, b2, b3⟩ ⟨c0, c1, c2, c3⟩ != 1) = true := bne_iff_ne.2 hB
    rw [hn]; exact out

end Go.Proofs.Ytiafnckmlklodaa.Pure
