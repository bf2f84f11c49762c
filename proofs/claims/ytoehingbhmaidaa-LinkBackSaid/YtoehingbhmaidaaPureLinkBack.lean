/- LinkBack -/
import Derived.Test.YtoehingbhmaidaaPx23 -- the law
import Derived.Test.YtoehingbhmaidaaSpecD
import Derived.Test.YtoehingbhmaidaaSpecE
namespace Go.Proofs.Ytoehingbhmaidaa.Pure
open Go.Proofs.Ytoehingbhmaidaa.Spec Go.RowKit Go.Proofs.Ytoehingbhmaidaa.P Go.Proofs.YtoehingbhmaidaaW.PrintWords Go.Proofs.YtoehingbhmaidaaW.PrintLast

theorem LinkBack : ∀ (a0_0 : Int) (l0_1 : List (S26)) (a1_0 : Int) (a1_1 : Int) (a2 : Int) (a3 : Int), (((Lit.int .i64 a0_0).wf = true) ∧ (l0_1.length ≤ 9223372036854775807 ∧ ∀ x_ ∈ l0_1, (((Lit.int .i64 x_.f0).wf = true) ∧ ((Lit.int .i64 x_.f1).wf = true)))) → (((Lit.int .i64 a1_0).wf = true) ∧ ((Lit.int .i64 a1_1).wf = true)) → ((Lit.int .i64 a2).wf = true) → ((Lit.int .i64 a3).wf = true) → ∃ k, drydocklaw16_LinkBack.f k a0_0 l0_1 a1_0 a1_1 a2 a3 = some true := by
  intro rev l x0 x1 p b ⟨_, hl, _⟩ _ _ _
  suffices h : Ev (fun k => drydocklaw16_LinkBack.f k rev l x0 x1 p b) true from h.rounds
  unfold drydocklaw16_LinkBack.f
  refine Ev.bind awake_ev ?_
  simp only [if_true]
  by_cases h20 : (l.length : Int) > 20
  · rw [decide_eq_true h20]
    exact Ev.step (f := fun _ => some true) (fun k => by simp only [drydocklaw16_LinkBack.j0, if_true]) (Ev.now _)
  rw [decide_eq_false h20]
  refine Ev.step (f := fun k => (link_Attach.f k rev l x0 x1 p b rev).bind fun bt360 => _) (fun k => by simp only [drydocklaw16_LinkBack.j0, Bool.false_eq_true, if_false]; rfl) ?_
  refine Ev.bind (att_ev rev ⟨x0, x1⟩ p b rev hl) ?_
  rcases att_inv rev l ⟨x0, x1⟩ p b rev with ⟨e, he, hA⟩ | ⟨hm, hp0, hp4, hx, hb, hl4, hA⟩
  · rw [hA]; simp only [if_neg he]; exact ev_now rfl
  · rw [hA]; simp only [if_true]
    obtain ⟨hm1, hm2, hm3, hm4⟩ := mayE_zero.1 hm
    obtain ⟨_, _, h0, h1, _⟩ := mayH_iff.1 hm1
    have hn := pos_le hb hp0
    have hM := mayH_ins (r := rev + 1) (n := pos p l b) hm1 hm2 hx hl4 (by omega) (by omega)
    have hlen := ins_len l (pos p l b) ⟨x0, x1⟩ hn
    have hfx := ins_fx l (pos p l b) ⟨x0, x1⟩ hn hx
    have hM1 : oneL ⟨1, 0⟩ = true := rfl
    have d1 : detS (rev + 1) (ins l (pos p l b) ⟨x0, x1⟩) x0 rev = (0, [], 5) := det_e (mayE_stale hM hM1 (by omega)) (by decide)
    have d2 : detS (rev + 1) (ins l (pos p l b) ⟨x0, x1⟩) x0 (rev + 1) = if rev + 1 = 1073741824 then (0, [], 2) else (rev + 2, l, 0) := by
      have e := mayE_same hM hM1
      by_cases h : rev + 1 = 1073741824
      · rw [if_pos h] at e; rw [if_pos h]; exact det_e e (by decide)
      · rw [if_neg h] at e; rw [if_neg h, det_ok e hfx, ins_erase l _ _ hn, Int.add_assoc]; rfl
    rw [det_f _ _ _ (by omega), det_f _ _ _ (by omega), d1, d2, wrap_s (by omega) (by omega)]
    simp only [Option.bind_some, if_true]
    by_cases h : rev + 1 = 1073741824
    · simp only [if_pos h]; exact ev_now rfl
    · simp only [if_neg h, if_true]
      rw [wrap_s (by omega) (by omega), show rev + 2 - 2 = rev by omega]
      refine Ev.bind (same_ev rev (by omega)) ?_
      simp only [if_true]
      refine Ev.bind (may_ev (rev + 1) (by omega)) ?_
      rw [hM]; exact Ev.now _

end Go.Proofs.Ytoehingbhmaidaa.Pure
