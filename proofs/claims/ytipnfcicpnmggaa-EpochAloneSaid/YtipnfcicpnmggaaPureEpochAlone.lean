/- EpochAlone -/
import Derived.Test.YtipnfcicpnmggaaPx24 -- the law
import Derived.Test.YtipnfcicpnmggaaSpecB
namespace Go.Proofs.Ytipnfcicpnmggaa.Pure
open Go.Proofs.Ytipnfcicpnmggaa.Spec Go.RowKit Go.Proofs.Ytipnfcicpnmggaa.P Go.Proofs.YtipnfcicpnmggaaW.PrintWords Go.Proofs.YtipnfcicpnmggaaW.PrintLast

theorem EpochAlone : ∀ (a0_0 : Int) (a0_1 : Int) (a0_2 : Int) (a0_3 : Int) (a0_4 : Int) (l0_5 : List (S43)) (a1 : Int), (((Lit.int .i64 a0_0).wf = true) ∧ (((Lit.int .i64 a0_1).wf = true) ∧ ((Lit.int .i64 a0_2).wf = true) ∧ ((Lit.int .i64 a0_3).wf = true) ∧ ((Lit.int .i64 a0_4).wf = true)) ∧ (l0_5.length ≤ 9223372036854775807 ∧ ∀ x_ ∈ l0_5, (((Lit.int .i64 x_.f0).wf = true) ∧ ((Lit.int .i64 x_.f1).wf = true)))) → ((Lit.int .i64 a1).wf = true) → ∃ k, drydocklaw17_EpochAlone.f k a0_0 a0_1 a0_2 a0_3 a0_4 l0_5 a1 = some true := by
  intro n a b c d l x ⟨_, _, hl, _⟩ _
  suffices h : Ev (fun k => drydocklaw17_EpochAlone.f k n a b c d l x) true from h.rounds
  unfold drydocklaw17_EpochAlone.f
  refine Ev.bind awake_ev ?_
  simp only [if_true]
  refine Ev.bind (may_ev n a b c d hl) ?_
  by_cases hm : mayE n a b c d l = true
  · rw [hm]
    obtain ⟨hn, hl16, _, _, _, _, hr⟩ := mayE_iff.1 hm
    have hlt : ∀ y ∈ l, y.f1 < n := fun y hy => by have := rest_mem hr y hy; omega
    have hz := may_zero hm
    have hlast : Ev (fun k => (epoch_Ready.f k n 0 0 0 0 l).bind fun t => some ((t.length : Int) == (l.length : Int))) true := by
      refine Ev.bind (Ready_ev n 0 0 0 0 (by omega)) (ev_now ?_)
      unfold clS; rw [if_pos hz, rd_zero]; simp
    refine Ev.step (f := fun k => _) (fun k => by simp only [drydocklaw17_EpochAlone.j0, Bool.not_true, Bool.false_eq_true, if_false]; rfl) ?_
    refine Ev.bind (Enter_ev n a b c d x (by omega)) ?_
    by_cases h1 : inb x 0 3 = true
    · obtain ⟨h0, h3⟩ := inb_iff.1 h1
      by_cases hs : sel4I a b c d x = 0
      · have eE : tnS n a b c d l x false n = (n, updI 0 x n a, updI 1 x n b, updI 2 x n c, updI 3 x n d, l, 0) := by
          unfold tnS; rw [if_pos hm, if_pos h1, if_neg (by simp [hs])]
        rw [eE]
        have hm2 := may_upd x n ⟨by omega, by omega⟩ hm
        have hsel : sel4I (updI 0 x n a) (updI 1 x n b) (updI 2 x n c) (updI 3 x n d) x = n := sel_upd h0 h3
        have eL : tnS n (updI 0 x n a) (updI 1 x n b) (updI 2 x n c) (updI 3 x n d) l x true 0 = (n, a, b, c, d, l, 0) := by
          unfold tnS; rw [if_pos hm2, if_pos h1, if_neg (by rw [hsel]; simp; omega)]
          obtain rfl | rfl | rfl | rfl : x = 0 ∨ x = 1 ∨ x = 2 ∨ x = 3 := by omega
          · obtain rfl : a = 0 := hs; rfl
          · obtain rfl : b = 0 := hs; rfl
          · obtain rfl : c = 0 := hs; rfl
          · obtain rfl : d = 0 := hs; rfl
        simp only [if_true]
        refine Ev.bind (Leave_ev n _ _ _ _ x (by omega)) ?_
        rw [eL]
        simp only [if_true]
        refine Ev.bind (same_self n a b c d (by omega)) ?_
        simp only [if_true]
        refine Ev.bind (Ready_ev n _ _ _ _ (by omega)) ?_
        refine Ev.bind (Ready_ev n a b c d (by omega)) ?_
        have eR : (clS n (updI 0 x n a) (updI 1 x n b) (updI 2 x n c) (updI 3 x n d) l).2.2.2.2.2.2 = (clS n a b c d l).2.2.2.2.2.2 := by
          unfold clS; rw [if_pos hm2, if_pos hm]; exact rd_enter h0 h3 hs hlt
        have hlr : (clS n a b c d l).2.2.2.2.2.2.length ≤ 100000 := by
          unfold clS; rw [if_pos hm]; have := rd_len a b c d l; show (rdL a b c d l).length ≤ 100000; omega
        rw [eR]
        refine Ev.bind (ints_self hlr) ?_
        simp only [if_true]
        exact hlast
      · have eE : tnS n a b c d l x false n = (0, 0, 0, 0, 0, [], 11) := by
          unfold tnS; rw [if_pos hm, if_pos h1, if_pos (by simp [hs])]
        rw [eE]
        exact hlast
    · have eE : tnS n a b c d l x false n = (0, 0, 0, 0, 0, [], 3) := by
        unfold tnS; rw [if_pos hm, if_neg h1]
      rw [eE]
      exact hlast
  · simp only [Bool.not_eq_true] at hm
    rw [hm]
    exact Ev.step (f := fun _ => some true) (fun k => by simp only [drydocklaw17_EpochAlone.j0, Bool.not_false, if_true]) (Ev.now _)

end Go.Proofs.Ytipnfcicpnmggaa.Pure
