/- LinkPlace -/
import Derived.Test.YtoehingbhmaidaaPx21 -- the law
import Derived.Test.YtoehingbhmaidaaSpecD
import Derived.Test.YtoehingbhmaidaaSpecE
namespace Go.Proofs.Ytoehingbhmaidaa.Pure
open Go.Proofs.Ytoehingbhmaidaa.Spec Go.RowKit Go.Proofs.Ytoehingbhmaidaa.P Go.Proofs.YtoehingbhmaidaaW.PrintWords Go.Proofs.YtoehingbhmaidaaW.PrintLast

theorem LinkPlace : ∀ (a0_0 : Int) (l0_1 : List (S26)) (a1_0 : Int) (a1_1 : Int) (a2 : Int) (a3 : Int), (((Lit.int .i64 a0_0).wf = true) ∧ (l0_1.length ≤ 9223372036854775807 ∧ ∀ x_ ∈ l0_1, (((Lit.int .i64 x_.f0).wf = true) ∧ ((Lit.int .i64 x_.f1).wf = true)))) → (((Lit.int .i64 a1_0).wf = true) ∧ ((Lit.int .i64 a1_1).wf = true)) → ((Lit.int .i64 a2).wf = true) → ((Lit.int .i64 a3).wf = true) → ∃ k, drydocklaw16_LinkPlace.f k a0_0 l0_1 a1_0 a1_1 a2 a3 = some true := by
  intro rev l x0 x1 p b ⟨_, hl, _⟩ _ _ _
  suffices h : Ev (fun k => drydocklaw16_LinkPlace.f k rev l x0 x1 p b) true from h.rounds
  unfold drydocklaw16_LinkPlace.f
  refine Ev.bind awake_ev ?_
  simp only [if_true]
  by_cases h20 : (l.length : Int) > 20
  · rw [decide_eq_true h20]
    exact Ev.step (f := fun _ => some true) (fun k => by simp only [drydocklaw16_LinkPlace.j0, if_true]) (Ev.now _)
  rw [decide_eq_false h20]
  refine Ev.step (f := fun k => (link_Attach.f k rev l x0 x1 p b rev).bind fun bt326 => _) (fun k => by simp only [drydocklaw16_LinkPlace.j0, Bool.false_eq_true, if_false]; rfl) ?_
  refine Ev.bind (att_ev rev ⟨x0, x1⟩ p b rev hl) ?_
  rcases att_inv rev l ⟨x0, x1⟩ p b rev with ⟨e, he, hA⟩ | ⟨hm, hp0, hp4, hx, hb, hl4, hA⟩
  · rw [hA]; simp only [if_neg he]; exact Ev.now _
  · rw [hA]; simp only [if_true]
    obtain ⟨hm1, hm2, hm3, hm4⟩ := mayE_zero.1 hm
    obtain ⟨_, _, h0, h1, _⟩ := mayH_iff.1 hm1
    have hn := pos_le hb hp0
    have hM := mayH_ins (r := rev + 1) (n := pos p l b) hm1 hm2 hx hl4 (by omega) (by omega)
    have hlen := ins_len l (pos p l b) ⟨x0, x1⟩ hn
    have hfx := ins_fx l (pos p l b) ⟨x0, x1⟩ hn hx
    refine Ev.bind (at_ev (rev + 1) x0 (by omega)) ?_
    rw [at_is hM hfx]
    refine Ev.bind (at_ev (rev + 1) b (by omega)) ?_
    simp only [if_true]
    rw [if_neg (by omega : ¬ ((pos p l b : Nat) : Int) < 0), if_neg (by omega : ¬ ((pos p l b : Nat) : Int) ≥ ((ins l (pos p l b) ⟨x0, x1⟩).length : Int)), if_pos (by omega : 0 ≤ ((pos p l b : Nat) : Int)), if_pos (by omega : ((pos p l b : Nat) : Int) < ((ins l (pos p l b) ⟨x0, x1⟩).length : Int)), rd_T26_nat _ (pos p l b) (by omega), ins_at l _ _ hn, if_neg (by simp), hlen, wrap_up (by omega), if_pos rfl]
    by_cases p0 : p = 0
    · subst p0; rw [if_pos rfl]; exact ev_now rfl
    rw [if_neg p0]
    by_cases p1 : p = 1
    · subst p1; rw [if_pos rfl]; exact ev_now (by simp [pos])
    rw [if_neg p1]
    obtain ⟨j, hj, ej, hj1, hj2⟩ := fx_idx (hb (by omega))
    by_cases p2 : p = 2
    · subst p2
      have hbx : x0 ≠ b := fun z => hx (by rw [z, ← hj1]; exact List.mem_map_of_mem (f := (·.f0)) (List.getElem_mem hj))
      have hpos : pos 2 l b = j := by simp [pos, ej]
      have := ins_fx_before l ⟨x0, x1⟩ hj hj1 hj2 hbx
      rw [hpos] at hM ⊢
      rw [at_is hM this, if_pos rfl, if_pos rfl, wrap_up (by omega)]; exact ev_now (by simp)
    rw [if_neg p2]
    obtain rfl : p = 3 := by omega
    have hpos : pos 3 l b = j + 1 := by simp [pos, ej]
    have := ins_fx_after l ⟨x0, x1⟩ hj hj1 hj2
    rw [hpos] at hM ⊢
    rw [at_is hM this, if_pos rfl, if_pos rfl, wrap_up (by omega)]; exact ev_now (by simp)

end Go.Proofs.Ytoehingbhmaidaa.Pure
