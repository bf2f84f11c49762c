/- LinkStale -/
import Derived.Test.YtoehingbhmaidaaPx20 -- the law
import Derived.Test.YtoehingbhmaidaaSpecC
import Derived.Test.YtoehingbhmaidaaSpecD
import Derived.Test.YtoehingbhmaidaaSpecE
namespace Go.Proofs.Ytoehingbhmaidaa.Pure
open Go.Proofs.Ytoehingbhmaidaa.Spec Go.RowKit Go.Proofs.Ytoehingbhmaidaa.P Go.Proofs.YtoehingbhmaidaaW.PrintWords Go.Proofs.YtoehingbhmaidaaW.PrintLast

theorem LinkStale : ∀ (a0_0 : Int) (l0_1 : List (S26)) (a1_0 : Int) (a1_1 : Int) (a2 : Int) (a3 : Int) (a4 : Int), (((Lit.int .i64 a0_0).wf = true) ∧ (l0_1.length ≤ 9223372036854775807 ∧ ∀ x_ ∈ l0_1, (((Lit.int .i64 x_.f0).wf = true) ∧ ((Lit.int .i64 x_.f1).wf = true)))) → (((Lit.int .i64 a1_0).wf = true) ∧ ((Lit.int .i64 a1_1).wf = true)) → ((Lit.int .i64 a2).wf = true) → ((Lit.int .i64 a3).wf = true) → ((Lit.int .i64 a4).wf = true) → ∃ k, drydocklaw16_LinkStale.f k a0_0 l0_1 a1_0 a1_1 a2 a3 a4 = some true := by
  intro rev l x0 x1 p b r ⟨_, hl, _⟩ _ _ _ _
  suffices h : Ev (fun k => drydocklaw16_LinkStale.f k rev l x0 x1 p b r) true from h.rounds
  have out : ∀ (y : Bool), Ev (fun k => drydocklaw16_LinkStale.j0 k p b r true true rev l x0 x1) true := fun y =>
    Ev.step (f := fun _ => some true) (fun k => by simp only [drydocklaw16_LinkStale.j0, if_true]) (Ev.now _)
  unfold drydocklaw16_LinkStale.f
  refine Ev.bind awake_ev ?_
  simp only [if_true]
  refine Ev.bind (may_ev rev hl) ?_
  refine ite_ev (fun hm => ?_) (fun _ => out true)
  refine ite_ev (fun _ => out true) (fun hr => ?_)
  refine ite_ev (fun _ => out true) (fun h1 => ?_)
  refine ite_ev (fun _ => out true) (fun h2 => ?_)
  by_cases h3 : x1 > 1023
  · rw [decide_eq_true h3]; exact out true
  · rw [decide_eq_false h3]
    have hl4 := (mayH_iff.1 hm).2.2.2.2
    have ho : oneL ⟨x0, x1⟩ = true := by simp [oneL]; omega
    have hE : ∀ x, oneL x = true → mayE rev l x r = 5 := fun x hx => by unfold mayE; rw [if_pos ⟨hm, hx⟩, if_neg hr]
    have eA : attS rev l ⟨x0, x1⟩ p b r = (0, [], 5) := by unfold attS; rw [hE _ ho]; rfl
    have eD : detS rev l b r = (0, [], 5) := by unfold detS; rw [hE _ rfl]; rfl
    have eS : swS rev l b ⟨x0, x1⟩ r = (0, [], 5) := by unfold swS; rw [hE _ ho]; rfl
    have A := att_ev rev ⟨x0, x1⟩ p b r hl
    have S := sw_ev rev b ⟨x0, x1⟩ r hl
    rw [eA] at A; rw [eS] at S
    refine Ev.step (f := fun k => (link_Attach.f k rev l x0 x1 p b r).bind fun bt305 => ((link_Swap.f k rev l b x0 x1 r).bind fun bt317 => (if bt305.2.2 = 5 then (if bt317.2.2 = bt305.2.2 then (if bt305.2.1 = [] then some ((bt317.2.1.length : Int) == 0) else none) else none) else none))) (fun k => ?_) ?_
    · simp only [drydocklaw16_LinkStale.j0, Bool.false_eq_true, if_false]
      rw [det_f rev b r (by omega), eD]
      simp only [Option.bind_some]
      congr 1; funext t
      congr 1; funext u
      by_cases e5 : t.2.2 = 5
      · rw [if_pos e5, if_pos e5, if_pos e5.symm]
        by_cases e6 : u.2.2 = t.2.2
        · rw [if_pos e6, if_pos e6]
          by_cases e7 : t.2.1 = []
          · rw [if_pos e7, e7]; simp
          · rw [if_neg e7, if_neg]; intro z; exact e7 (List.length_eq_zero_iff.1 (by omega))
        · rw [if_neg e6, if_neg e6]
      · rw [if_neg e5, if_neg e5]
    · refine Ev.bind A ?_
      refine Ev.bind S ?_
      simp only [if_true]
      exact Ev.now _

end Go.Proofs.Ytoehingbhmaidaa.Pure
