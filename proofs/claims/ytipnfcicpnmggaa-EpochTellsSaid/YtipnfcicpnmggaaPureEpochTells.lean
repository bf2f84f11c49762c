/- EpochTells -/
import Derived.Test.YtipnfcicpnmggaaPx20 -- the law
import Derived.Test.YtipnfcicpnmggaaSpecC
namespace Go.Proofs.Ytipnfcicpnmggaa.Pure
open Go.Proofs.Ytipnfcicpnmggaa.Spec Go.RowKit Go.Proofs.Ytipnfcicpnmggaa.P Go.Proofs.YtipnfcicpnmggaaW.PrintWords Go.Proofs.YtipnfcicpnmggaaW.PrintLast

theorem tn_len (n a b c d : Int) (l : List S43) (x : Int) (ins : Bool) (v : Int) : (tnS n a b c d l x ins v).2.2.2.2.2.1.length ≤ l.length := by
  unfold tnS
  split
  · split
    · split
      · simp
      · exact Nat.le_refl _
    · simp
  · simp
theorem rt_len (n a b c d : Int) (l : List S43) (x : Int) : (rtS n a b c d l x).2.2.2.2.2.1.length ≤ l.length + 1 := by
  unfold rtS
  split
  · split
    · simp
    · split
      · simp
      · simp
  · simp
theorem cl_len (n a b c d : Int) (l : List S43) : (clS n a b c d l).2.2.2.2.2.1.length ≤ l.length ∧ (clS n a b c d l).2.2.2.2.2.2.length ≤ l.length := by
  unfold clS
  split
  · exact ⟨List.length_filter_le _ _, rd_len a b c d l⟩
  · exact ⟨Nat.le_refl _, by simp⟩
section
variable {n a b c d x img : Int} {l : List S43}
theorem tells4 (hl : l.length ≤ 40) : Ev (fun k => drydocklaw17_EpochTells.j4 k true true true true n a b c d l n a b c d l) true := by
  refine Ev.step (f := fun k => _) (fun k => by simp only [drydocklaw17_EpochTells.j4, if_true]; rfl) ?_
  refine Ev.bind (Ready_ev n a b c d (by omega)) ?_
  refine Ev.bind (rReady_ev n a b c d hl) ?_
  refine Ev.bind (ints_self (by have := (cl_len n a b c d l).2; omega)) ?_
  simp only [if_true]
  refine Ev.bind (same_self n a b c d (by omega)) ?_
  simp only [if_true]
  refine Ev.bind (may_ev n a b c d (by omega)) ?_
  refine Ev.bind (rmay_ev n a b c d l) ?_
  exact ev_now (beq_self_eq_true _)
theorem tells3 (hl : l.length ≤ 40) : Ev (fun k => drydocklaw17_EpochTells.j3 k true true true n a b c d l n a b c d l) true := by
  have hE := clear_ev n a b c d (l := l) (by omega)
  have hR := rClear_ev n a b c d hl
  have hlen := cl_len n a b c d l
  generalize clS n a b c d l = t at hE hR hlen
  refine Ev.step (f := fun k => _) (fun k => by simp only [drydocklaw17_EpochTells.j3]; rfl) ?_
  refine Ev.bind hE ?_
  refine Ev.bind hR ?_
  refine Ev.bind (same_self t.1 t.2.1 t.2.2.1 t.2.2.2.1 t.2.2.2.2.1 (by omega)) ?_
  simp only [if_true]
  refine Ev.bind (ints_self (by omega)) ?_
  exact tells4 hl
theorem tells2 (hl : l.length ≤ 40) : Ev (fun k => drydocklaw17_EpochTells.j2 k img true true n a b c d l n a b c d l) true := by
  have hE := retire_ev n a b c d (l := l) img (by omega)
  have hR := rRetire_ev n a b c d img hl
  have hlen := rt_len n a b c d l img
  generalize rtS n a b c d l img = t at hE hR hlen
  refine Ev.step (f := fun k => _) (fun k => by simp only [drydocklaw17_EpochTells.j2]; rfl) ?_
  refine Ev.bind hE ?_
  refine Ev.bind hR ?_
  refine Ev.bind (same_self t.1 t.2.1 t.2.2.1 t.2.2.2.1 t.2.2.2.2.1 (by omega)) ?_
  simp only [if_true, beq_self_eq_true]
  exact tells3 hl
theorem tells1 (hl : l.length ≤ 40) : Ev (fun k => drydocklaw17_EpochTells.j1 k x img true n a b c d l n a b c d l) true := by
  have hE := Leave_ev n a b c d (l := l) x (by omega)
  have hR := rLeave_ev n a b c d x hl
  have hlen := tn_len n a b c d l x true 0
  generalize tnS n a b c d l x true 0 = t at hE hR hlen
  refine Ev.step (f := fun k => _) (fun k => by simp only [drydocklaw17_EpochTells.j1]; rfl) ?_
  refine Ev.bind hE ?_
  refine Ev.bind hR ?_
  refine Ev.bind (same_self t.1 t.2.1 t.2.2.1 t.2.2.2.1 t.2.2.2.2.1 (by omega)) ?_
  simp only [if_true, beq_self_eq_true]
  exact tells2 hl
end
theorem EpochTells : ∀ (a0_0 : Int) (a0_1 : Int) (a0_2 : Int) (a0_3 : Int) (a0_4 : Int) (l0_5 : List (S43)) (a1 : Int) (a2 : Int), (((Lit.int .i64 a0_0).wf = true) ∧ (((Lit.int .i64 a0_1).wf = true) ∧ ((Lit.int .i64 a0_2).wf = true) ∧ ((Lit.int .i64 a0_3).wf = true) ∧ ((Lit.int .i64 a0_4).wf = true)) ∧ (l0_5.length ≤ 9223372036854775807 ∧ ∀ x_ ∈ l0_5, (((Lit.int .i64 x_.f0).wf = true) ∧ ((Lit.int .i64 x_.f1).wf = true)))) → ((Lit.int .i64 a1).wf = true) → ((Lit.int .i64 a2).wf = true) → ∃ k, drydocklaw17_EpochTells.f k a0_0 a0_1 a0_2 a0_3 a0_4 l0_5 a1 a2 = some true := by
  intro n a b c d l x img _ _ _
  suffices h : Ev (fun k => drydocklaw17_EpochTells.f k n a b c d l x img) true from h.rounds
  unfold drydocklaw17_EpochTells.f
  refine Ev.bind awake_ev ?_
  simp only [if_true]
  by_cases h : (l.length : Int) > 40
  · rw [decide_eq_true h]
    exact Ev.step (f := fun _ => some true) (fun k => by simp only [drydocklaw17_EpochTells.j0, if_true]) (Ev.now _)
  · rw [decide_eq_false h]
    have hl : l.length ≤ 40 := by omega
    have hE := Enter_ev n a b c d (l := l) x (by omega)
    have hR := rEnter_ev n a b c d x hl
    have hlen := tn_len n a b c d l x false n
    generalize tnS n a b c d l x false n = t at hE hR hlen
    refine Ev.step (f := fun k => _) (fun k => by simp only [drydocklaw17_EpochTells.j0, Bool.false_eq_true, if_false, rown_f n a b c d hl, Option.bind_some]; rfl) ?_
    refine Ev.bind hE ?_
    refine Ev.bind hR ?_
    refine Ev.bind (same_self t.1 t.2.1 t.2.2.1 t.2.2.2.1 t.2.2.2.2.1 (by omega)) ?_
    simp only [if_true, beq_self_eq_true]
    exact tells1 hl

end Go.Proofs.Ytipnfcicpnmggaa.Pure
