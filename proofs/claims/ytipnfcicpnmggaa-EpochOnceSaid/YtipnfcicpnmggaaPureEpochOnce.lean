/- EpochOnce -/
import Derived.Test.YtipnfcicpnmggaaPx25 -- the law
import Derived.Test.YtipnfcicpnmggaaSpecB
namespace Go.Proofs.Ytipnfcicpnmggaa.Pure
open Go.Proofs.Ytipnfcicpnmggaa.Spec Go.RowKit Go.Proofs.Ytipnfcicpnmggaa.P Go.Proofs.YtipnfcicpnmggaaW.PrintWords Go.Proofs.YtipnfcicpnmggaaW.PrintLast

theorem may_snoc {n a b c d : Int} {l : List S43} {x : Int} (h : mayE n a b c d l = true) (hn : n + 1 ≤ 1073741824) (hl : l.length ≤ 15) (hx : 1 ≤ x) (hm : x ∉ l.map (·.f0)) : mayE (n + 1) a b c d (l ++ [⟨x, n⟩]) = true := by
  obtain ⟨h1, h2, h3, h4, h5, h6, h7⟩ := mayE_iff.1 h
  exact mayE_iff.2 ⟨⟨by omega, hn⟩, by simp; omega, ⟨by omega, by omega⟩, ⟨by omega, by omega⟩, ⟨by omega, by omega⟩, ⟨by omega, by omega⟩, rest_snoc h7 (by omega) (by omega) (by omega) hx (by simp) hm⟩
theorem once_j2 {n a b c d : Int} {l : List S43} {img : Int} (h : mayE n 0 0 0 0 l = true) (hn : n ≤ 1000000) (hl : l.length ≤ 15) (hi : 1 ≤ img) : Ev (fun k => drydocklaw17_EpochOnce.j2 k img n a b c d l) true := by
  refine Ev.step (f := fun k => _) (fun k => by simp only [drydocklaw17_EpochOnce.j2]; rfl) ?_
  obtain ⟨hn1, _⟩ := mayE_iff.1 h
  refine Ev.bind (retire_ev n 0 0 0 0 img (by omega)) ?_
  by_cases hm : img ∈ l.map (·.f0)
  · rw [show rtS n 0 0 0 0 l img = (0, 0, 0, 0, 0, [], 1) from by unfold rtS; rw [if_neg (fun z => z.2.2 hm)]]
    exact ev_now rfl
  · rw [show rtS n 0 0 0 0 l img = (n + 1, 0, 0, 0, 0, l ++ [⟨img, n⟩], 0) from by unfold rtS; rw [if_pos ⟨h, hi, hm⟩, if_neg (by omega), if_neg (by omega)]]
    simp only [if_true]
    have h2 := may_snoc h (by omega) hl hi hm
    have hl2 : (l ++ [(⟨img, n⟩ : S43)]).length ≤ 100000 := by simp; omega
    refine Ev.bind (retire_ev (n + 1) 0 0 0 0 img hl2) ?_
    rw [show rtS (n + 1) 0 0 0 0 (l ++ [⟨img, n⟩]) img = (0, 0, 0, 0, 0, [], 1) from by unfold rtS; rw [if_neg (fun z => z.2.2 (by simp))]]
    refine Ev.bind (clear_ev (n + 1) 0 0 0 0 hl2) ?_
    rw [show clS (n + 1) 0 0 0 0 (l ++ [⟨img, n⟩]) = (n + 1, 0, 0, 0, 0, [], (l ++ [(⟨img, n⟩ : S43)]).map (·.f0)) from by unfold clS; rw [if_pos h2, rd_zero, lf_zero]]
    refine Ev.bind (retire_ev (n + 1) 0 0 0 0 img (by simp)) ?_
    have h3 : mayE (n + 1) 0 0 0 0 [] = true := mayE_iff.2 ⟨⟨by omega, by omega⟩, by simp, ⟨by omega, by omega⟩, ⟨by omega, by omega⟩, ⟨by omega, by omega⟩, ⟨by omega, by omega⟩, rfl⟩
    rw [show rtS (n + 1) 0 0 0 0 [] img = (n + 1 + 1, 0, 0, 0, 0, [⟨img, n + 1⟩], 0) from by unfold rtS; rw [if_pos ⟨h3, hi, by simp⟩, if_neg (by omega), if_neg (by simp)]; rfl]
    exact ev_now rfl
theorem EpochOnce : ∀ (a0_0 : Int) (a0_1 : Int) (a0_2 : Int) (a0_3 : Int) (a0_4 : Int) (l0_5 : List (S43)) (a1 : Int) (a2 : Int), (((Lit.int .i64 a0_0).wf = true) ∧ (((Lit.int .i64 a0_1).wf = true) ∧ ((Lit.int .i64 a0_2).wf = true) ∧ ((Lit.int .i64 a0_3).wf = true) ∧ ((Lit.int .i64 a0_4).wf = true)) ∧ (l0_5.length ≤ 9223372036854775807 ∧ ∀ x_ ∈ l0_5, (((Lit.int .i64 x_.f0).wf = true) ∧ ((Lit.int .i64 x_.f1).wf = true)))) → ((Lit.int .i64 a1).wf = true) → ((Lit.int .i64 a2).wf = true) → ∃ k, drydocklaw17_EpochOnce.f k a0_0 a0_1 a0_2 a0_3 a0_4 l0_5 a1 a2 = some true := by
  intro n a b c d l x img ⟨_, _, hl, _⟩ _ _
  suffices h : Ev (fun k => drydocklaw17_EpochOnce.f k n a b c d l x img) true from h.rounds
  have out : Ev (fun k => drydocklaw17_EpochOnce.j0 k x img true true n a b c d l) true := Ev.step (f := fun _ => some true) (fun k => by simp only [drydocklaw17_EpochOnce.j0, if_true]) (Ev.now _)
  unfold drydocklaw17_EpochOnce.f
  refine Ev.bind awake_ev ?_
  simp only [if_true]
  refine Ev.bind (may_ev n a b c d hl) ?_
  refine ite_ev (fun hm => ?_) (fun _ => out)
  refine ite_ev (fun _ => out) (fun g1 => ?_)
  refine ite_ev (fun _ => out) (fun g2 => ?_)
  refine ite_ev (fun _ => out) (fun g3 => ?_)
  refine ite_ev (fun _ => out) (fun g4 => ?_)
  by_cases g5 : img < 1
  · rw [decide_eq_true g5]; exact out
  rw [decide_eq_false g5]
  have hz := may_zero hm
  obtain ⟨hn, hl16, _, _, _, _, hr⟩ := mayE_iff.1 hm
  have h1 : inb x 0 3 = true := inb_iff.2 ⟨by omega, by omega⟩
  have hj2 : Ev (fun k => drydocklaw17_EpochOnce.j2 k img n a b c d l) true := once_j2 hz (by omega) (by omega) (by omega)
  refine Ev.step (f := fun k => _) (fun k => by simp only [drydocklaw17_EpochOnce.j0, Bool.false_eq_true, if_false]; rfl) ?_
  refine Ev.bind (Enter_ev n a b c d x (by omega)) ?_
  refine Ev.bind (Leave_ev n a b c d x (by omega)) ?_
  by_cases hs : sel4I a b c d x = 0
  · have eE : tnS n a b c d l x false n = (n, updI 0 x n a, updI 1 x n b, updI 2 x n c, updI 3 x n d, l, 0) := by
      unfold tnS; rw [if_pos hm, if_pos h1, if_neg (by simp [hs])]
    have eL : tnS n a b c d l x true 0 = (0, 0, 0, 0, 0, [], 11) := by
      unfold tnS; rw [if_pos hm, if_pos h1, if_pos (by simp [hs])]
    rw [eE, eL]
    have hm2 := may_upd x n ⟨by omega, by omega⟩ hm
    have hsel : sel4I (updI 0 x n a) (updI 1 x n b) (updI 2 x n c) (updI 3 x n d) x = n := sel_upd (by omega) (by omega)
    refine Ev.congr (f := fun k => drydocklaw17_EpochOnce.j1 k x img 0 false n a b c d l n (updI 0 x n a) (updI 1 x n b) (updI 2 x n c) (updI 3 x n d) l) (fun k => rfl) ?_
    refine Ev.step (f := fun k => (epoch_Enter.f k n (updI 0 x n a) (updI 1 x n b) (updI 2 x n c) (updI 3 x n d) l x).bind fun bt650 => if bt650.2.2.2.2.2.2 = 11 then drydocklaw17_EpochOnce.j2 k img n a b c d l else none) (fun k => by simp only [drydocklaw17_EpochOnce.j1, Bool.false_eq_true, if_false, if_true]) ?_
    refine Ev.bind (Enter_ev n _ _ _ _ x (by omega)) ?_
    rw [show tnS n (updI 0 x n a) (updI 1 x n b) (updI 2 x n c) (updI 3 x n d) l x false n = (0, 0, 0, 0, 0, [], 11) from by
      unfold tnS; rw [if_pos hm2, if_pos h1, if_pos (by rw [hsel]; simp; omega)]]
    exact hj2
  · have eE : tnS n a b c d l x false n = (0, 0, 0, 0, 0, [], 11) := by
      unfold tnS; rw [if_pos hm, if_pos h1, if_pos (by simp [hs])]
    have eL : tnS n a b c d l x true 0 = (n, updI 0 x 0 a, updI 1 x 0 b, updI 2 x 0 c, updI 3 x 0 d, l, 0) := by
      unfold tnS; rw [if_pos hm, if_pos h1, if_neg (by simp [hs])]
    rw [eE, eL]
    refine Ev.congr (f := fun k => drydocklaw17_EpochOnce.j1 k x img 11 false n a b c d l 0 0 0 0 0 []) (fun k => rfl) ?_
    exact Ev.step (f := fun k => drydocklaw17_EpochOnce.j2 k img n a b c d l) (fun k => by simp only [drydocklaw17_EpochOnce.j1, Bool.false_eq_true, if_false]; rw [if_neg (by omega)]) hj2

end Go.Proofs.Ytipnfcicpnmggaa.Pure
