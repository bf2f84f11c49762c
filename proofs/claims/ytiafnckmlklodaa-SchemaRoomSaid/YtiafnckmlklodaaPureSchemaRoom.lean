/- SchemaRoom -/
import Derived.Test.YtiafnckmlklodaaPx9 -- the law
import Derived.Test.YtiafnckmlklodaaSpecB
namespace Go.Proofs.Ytiafnckmlklodaa.Pure
open Go.Proofs.Ytiafnckmlklodaa.Spec Go.RowKit Go.Proofs.Ytiafnckmlklodaa.P Go.Proofs.YtiafnckmlklodaaW.PrintWords Go.Proofs.YtiafnckmlklodaaW.PrintLast

theorem SchemaRoom : ∀ (a0_0 : Int) (a0_1 : Int) (a0_2 : Int) (a0_3 : Int), (((Lit.int .i64 a0_0).wf = true) ∧ ((Lit.int .i64 a0_1).wf = true) ∧ ((Lit.int .i64 a0_2).wf = true) ∧ ((Lit.int .i64 a0_3).wf = true)) → ∃ k, drydocklaw04_SchemaRoom.f k a0_0 a0_1 a0_2 a0_3 = some true := by
  intro a b c d _
  suffices h : Ev (fun k => drydocklaw04_SchemaRoom.f k a b c d) true from h.rounds
  unfold drydocklaw04_SchemaRoom.f
  refine Ev.bind awake_ev ?_
  refine Ev.bind (room_ev a b c d) ?_
  simp only [if_true]
  refine Ev.bind (may_ev a b c d) ?_
  cases hm : mayS ⟨a, b, c, d⟩ with
  | false =>
    refine Ev.step (f := fun _ => some (roomS ⟨a, b, c, d⟩ == 0)) (fun k => by simp only [drydocklaw04_SchemaRoom.j0, Bool.not_false, if_true]) (ev_now ?_)
    unfold roomS; rw [hm]; rfl
  | true =>
    have hb := mayS_b hm
    simp only at hb
    have hP := mul_b (a := b) (b := c + 1) ⟨hb.2.2.1, hb.2.2.2.1⟩ ⟨by omega, by omega⟩
    have hn : roomS ⟨a, b, c, d⟩ = b * (c + 1) := by unfold roomS; rw [if_pos hm]
    rw [hn]
    have r1 : ∀ d', mayS ⟨a, b + 1, c, d'⟩ = true → roomS ⟨a, b + 1, c, d'⟩ = b * (c + 1) + c + 1 := fun d' h => by
      unfold roomS; rw [if_pos h]; simp only; rw [Int.add_mul, Int.one_mul]; omega
    have r2 : ∀ d', mayS ⟨a, b, c + 1, d'⟩ = true → roomS ⟨a, b, c + 1, d'⟩ = b * (c + 1) + b := fun d' h => by
      unfold roomS; rw [if_pos h]; simp only; rw [Int.mul_add b (c + 1) 1, Int.mul_one]
    have r3 : roomS ⟨a, b, c, 0⟩ = b * (c + 1) := by
      unfold roomS; rw [if_pos]
      have := mayS_iff.1 hm
      refine mayS_iff.2 ?_
      simp only at this ⊢
      omega
    generalize b * (c + 1) = P at hP r1 r2 r3
    have w1 : wrap64 (b + 1) = b + 1 := wrap_s (by omega) (by omega)
    have w2 : wrap64 (c + 1) = c + 1 := wrap_s (by omega) (by omega)
    have w3 : wrap64 (P + c) = P + c := wrap_s (by omega) (by omega)
    have w4 : wrap64 (P + c + 1) = P + c + 1 := wrap_s (by omega) (by omega)
    have w5 : wrap64 (P + b) = P + b := wrap_s (by omega) (by omega)
    have g1 : P ≥ 2 := hP.1
    have g2 : P ≤ 80 := hP.2
    have last : Ev (fun k => (schema_Room.f k a b c 0).bind fun t172 => some (t172 == P)) true := Ev.bind (room_ev a b c 0) (ev_now (by rw [r3]; simp))
    refine Ev.step (f := fun k => (schema_May.f k a (b + 1) c d).bind fun t168 => _) (fun k => by simp only [drydocklaw04_SchemaRoom.j0, Bool.not_true, Bool.false_eq_true, if_false, w1, w2, w3, w4, w5]; rfl) ?_
    refine Ev.bind (may_ev a (b + 1) c d) ?_
    cases ht : mayS ⟨a, b + 1, c, d⟩ with
    | true =>
      simp only [if_true]
      refine Ev.bind (room_ev a (b + 1) c d) ?_
      rw [r1 d ht]
      refine Ev.bind (may_ev a b (c + 1) d) ?_
      cases hu : mayS ⟨a, b, c + 1, d⟩ with
      | true =>
        simp only [if_true]
        refine Ev.bind (room_ev a b (c + 1) d) ?_
        rw [r2 d hu]
        simp only [if_true, if_pos g1, if_pos g2]
        exact last
      | false =>
        simp only [Bool.false_eq_true, if_false, if_true, if_pos g1, if_pos g2]
        exact last
    | false =>
      simp only [Bool.false_eq_true, if_false]
      refine Ev.bind (may_ev a b (c + 1) d) ?_
      cases hu : mayS ⟨a, b, c + 1, d⟩ with
      | true =>
        simp only [if_true]
        refine Ev.bind (room_ev a b (c + 1) d) ?_
        rw [r2 d hu]
        simp only [if_true, if_pos g1, if_pos g2]
        exact last
      | false =>
        simp only [Bool.false_eq_true, if_false, if_pos g1, if_pos g2]
        exact last

end Go.Proofs.Ytiafnckmlklodaa.Pure
