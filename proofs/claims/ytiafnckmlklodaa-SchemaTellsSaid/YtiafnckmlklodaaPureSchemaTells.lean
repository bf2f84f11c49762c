/- SchemaTells -/
import Derived.Test.YtiafnckmlklodaaPx17 -- the law
import Derived.Test.YtiafnckmlklodaaSpecD
namespace Go.Proofs.Ytiafnckmlklodaa.Pure
open Go.Proofs.Ytiafnckmlklodaa.Spec Go.RowKit Go.Proofs.Ytiafnckmlklodaa.P Go.Proofs.YtiafnckmlklodaaW.PrintWords Go.Proofs.YtiafnckmlklodaaW.PrintLast

theorem SchemaTells : ∀ (l0 : List (S34)) (l1 : List Int) (a2_0 : Int) (a2_1 : Int) (a2_2 : Int) (a2_3 : Int) (a3_0 : Int) (a3_1 : Int) (a3_2 : Int) (a3_3 : Int), (l0.length ≤ 9223372036854775807 ∧ ∀ x_ ∈ l0, (((Lit.int .i64 x_.f0).wf = true) ∧ ((Lit.int .i64 x_.f1).wf = true) ∧ ((Lit.int .i64 x_.f2).wf = true) ∧ ((Lit.int .i64 x_.f3).wf = true))) → (l1.length ≤ 9223372036854775807 ∧ ∀ x_ ∈ l1, ((Lit.int .u8 x_).wf = true)) → (((Lit.int .i64 a2_0).wf = true) ∧ ((Lit.int .i64 a2_1).wf = true) ∧ ((Lit.int .i64 a2_2).wf = true) ∧ ((Lit.int .i64 a2_3).wf = true)) → (((Lit.int .i64 a3_0).wf = true) ∧ ((Lit.int .i64 a3_1).wf = true) ∧ ((Lit.int .i64 a3_2).wf = true) ∧ ((Lit.int .i64 a3_3).wf = true)) → ∃ k, drydocklaw04_SchemaTells.f k l0 l1 a2_0 a2_1 a2_2 a2_3 a3_0 a3_1 a3_2 a3_3 = some true := by
  intro l0 l1 a b c d e f g h _ ⟨_, hr⟩ _ _
  suffices H : Ev (fun k => drydocklaw04_SchemaTells.f k l0 l1 a b c d e f g h) true from H.rounds
  have out : Ev (fun k => drydocklaw04_SchemaTells.j0 k l0 l1 true true a b c d e f g h) true := Ev.step (f := fun _ => some true) (fun k => by simp only [drydocklaw04_SchemaTells.j0, if_true]) (Ev.now _)
  unfold drydocklaw04_SchemaTells.f
  refine Ev.bind awake_ev ?_
  simp only [if_true]
  refine ite_ev (fun _ => out) (fun h20 => ?_)
  by_cases h100 : (l1.length : Int) > 100
  · rw [decide_eq_true h100]; exact out
  rw [decide_eq_false h100]
  have hr1 : ∀ x ∈ l1, 0 ≤ x ∧ x ≤ 255 := fun x hx => by
    have := hr x hx
    rw [Lit.wf] at this
    have h2 : IntKind.u8.min ≤ x ∧ x ≤ IntKind.u8.max := by simpa using this
    rw [show IntKind.u8.min = 0 from by decide, show IntKind.u8.max = 255 from by decide] at h2
    exact h2
  refine Ev.step (f := fun k => (schema_Put.f k l0).bind fun bt258 => _) (fun k => by simp only [drydocklaw04_SchemaTells.j0, Bool.false_eq_true, if_false]; rfl) ?_
  refine Ev.bind (put_ev l0) ?_
  refine Ev.bind (refput_ev l0) ?_
  have hpl : (putS l0).1.length ≤ 100000 := by
    by_cases hp : putOk l0
    · have := hp.1
      rw [putS_ok hp]; simp only; rw [bytesS_len]; omega
    · rw [putS_no hp]; simp
  refine Ev.bind (bytes_ev _ hpl) ?_
  simp only [if_true]
  rw [get_f (by omega) hr1]
  simp only [Option.bind_some]
  refine Ev.bind (refget_ev l1 (by omega) hr1) ?_
  have hgl : (getS l1).1.length ≤ 100000 := by
    by_cases hg : getOk l1
    · rw [getS_ok hg]; have := hg.2.2.1; simp only; omega
    · rw [getS_no hg]; simp
  refine Ev.bind (same_ev _ hgl) ?_
  simp only [if_true]
  refine Ev.bind (may_ev a b c d) ?_
  rw [refmay_f]
  simp only [Option.bind_some, beq_self_eq_true, if_true]
  refine Ev.bind (room_ev a b c d) ?_
  rw [refroom_f]
  simp only [Option.bind_some, if_true]
  refine Ev.bind (step_ev a b c d e f g h) ?_
  refine Ev.bind (refstep_ev a b c d e f g h) ?_
  exact ev_now (by simp)

end Go.Proofs.Ytiafnckmlklodaa.Pure
