/- SchemaBack -/
import Derived.Test.YtiafnckmlklodaaPx8 -- the law
import Derived.Test.YtiafnckmlklodaaSpecC
namespace Go.Proofs.Ytiafnckmlklodaa.Pure
open Go.Proofs.Ytiafnckmlklodaa.Spec Go.RowKit Go.Proofs.Ytiafnckmlklodaa.P Go.Proofs.YtiafnckmlklodaaW.PrintWords Go.Proofs.YtiafnckmlklodaaW.PrintLast

theorem SchemaBack : ∀ (l0 : List (S34)) (l1 : List Int), (l0.length ≤ 9223372036854775807 ∧ ∀ x_ ∈ l0, (((Lit.int .i64 x_.f0).wf = true) ∧ ((Lit.int .i64 x_.f1).wf = true) ∧ ((Lit.int .i64 x_.f2).wf = true) ∧ ((Lit.int .i64 x_.f3).wf = true))) → (l1.length ≤ 9223372036854775807 ∧ ∀ x_ ∈ l1, ((Lit.int .u8 x_).wf = true)) → ∃ k, drydocklaw04_SchemaBack.f k l0 l1 = some true := by
  intro l0 l1 _ ⟨_, hr⟩
  suffices H : Ev (fun k => drydocklaw04_SchemaBack.f k l0 l1) true from H.rounds
  have out : Ev (fun k => drydocklaw04_SchemaBack.j0 k l0 l1 true true) true := Ev.step (f := fun _ => some true) (fun k => by simp only [drydocklaw04_SchemaBack.j0, if_true]) (Ev.now _)
  unfold drydocklaw04_SchemaBack.f
  refine Ev.bind awake_ev ?_
  simp only [if_true]
  refine ite_ev (fun _ => out) (fun h20 => ?_)
  by_cases h100 : (l1.length : Int) > 100
  · rw [decide_eq_true h100]; exact out
  rw [decide_eq_false h100]
  have hr1 : ∀ x ∈ l1, 0 ≤ x ∧ x ≤ 255 := fun x hx => by
    have := hr x hx
    rw [Lit.wf] at this
    have h2 : IntKind.u8.min ≤ x ∧ x ≤ IntKind.u8.max := by simpa using this
    rw [show IntKind.u8.min = 0 from by decide, show IntKind.u8.max = 255 from by decide] at h2
    exact h2
  have J : Ev (fun k => drydocklaw04_SchemaBack.j1 k l1 false) true := by
    refine Ev.step (f := fun k => (schema_Get.f l1).bind fun bt152 => _) (fun k => by simp only [drydocklaw04_SchemaBack.j1, Bool.false_eq_true, if_false]; rfl) ?_
    rw [get_f (by omega) hr1]
    simp only [Option.bind_some]
    by_cases hg : getOk l1
    · rw [getS_ok hg]; simp only [if_true]
      refine Ev.bind (put_ev _) ?_
      rw [putS_ok hg.2.2]; simp only [if_true]
      rw [bytes_dec hg hr1]
      exact Ev.bind (bytes_ev l1 (by omega)) (Ev.now _)
    · rw [getS_no hg]; exact ev_now rfl
  refine Ev.step (f := fun k => (schema_Put.f k l0).bind fun bt143 => _) (fun k => by simp only [drydocklaw04_SchemaBack.j0, Bool.false_eq_true, if_false]; rfl) ?_
  refine Ev.bind (put_ev l0) ?_
  by_cases hp : putOk l0
  · have h4 := hp.1
    rw [putS_ok hp]
    simp only
    rw [get_f (by rw [bytesS_len]; omega) (bytesS_range l0), get_bytes hp]
    simp only [Option.bind_some, if_true]
    refine Ev.bind (same_ev l0 (by omega)) ?_
    simp only [if_true]
    exact J
  · rw [putS_no hp, get_nil]
    simp only [Option.bind_some]
    refine Ev.bind (same_no (a := []) (b := l0) (fun z => hp (by rw [List.length_eq_zero_iff.1 z.symm]; exact ⟨by simp, rfl⟩))) ?_
    simp only [if_neg (by decide : ¬ ((1 : Int) = 0))]
    exact J

end Go.Proofs.Ytiafnckmlklodaa.Pure
