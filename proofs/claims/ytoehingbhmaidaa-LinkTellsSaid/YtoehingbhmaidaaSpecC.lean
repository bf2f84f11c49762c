/- What drydockref16.Same tells of two alike. -/
import Derived.Test.YtoehingbhmaidaaPx13
import Derived.Test.YtoehingbhmaidaaSpecB
namespace Go.Proofs.Ytoehingbhmaidaa.Spec
open Go.RowKit Go.Proofs.Ytoehingbhmaidaa.P Go.Proofs.YtoehingbhmaidaaW.PrintWords Go.Proofs.YtoehingbhmaidaaW.PrintLast

theorem same_l {l : List S26} (r : Int) (hl : l.length ≤ 100000) : ∀ (d i : Nat), l.length - i = d → i ≤ l.length → Ev (fun k => drydockref16_Same.l0 k (i : Int) r l r l) true := by
  intro d
  induction d with
  | zero =>
    intro i hd hi
    exact Ev.step (f := fun _ => some true) (fun k => by simp only [drydockref16_Same.l0]; rw [if_neg (by omega)]) (Ev.now _)
  | succ d ih =>
    intro i hd hi
    have hlt : i < l.length := by omega
    refine Ev.step (f := fun k => drydockref16_Same.l0 k ((i + 1 : Nat) : Int) r l r l) (fun k => ?_) (ih (i + 1) (by omega) (by omega))
    simp only [drydockref16_Same.l0]
    rw [if_pos (by omega), if_pos (by omega), if_pos (by omega), wrap_up (by omega)]
    simp
theorem same_ev {l : List S26} (r : Int) (hl : l.length ≤ 100000) : Ev (fun k => drydockref16_Same.f k r l r l) true := by
  unfold drydockref16_Same.f
  simp only [if_true, bne_self_eq_false]
  refine Ev.step (f := fun k => drydockref16_Same.l0 k 0 r l r l) (fun k => by simp only [drydockref16_Same.j0, Bool.false_eq_true, if_false]) ?_
  exact same_l r hl l.length 0 (by omega) (by omega)

end Go.Proofs.Ytoehingbhmaidaa.Spec
