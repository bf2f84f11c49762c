/- What awake, Has and Same come to. -/
import Derived.Test.YtlboachgeepadaaSpec
import Derived.Test.YtlboachgeepadaaPx6
import Derived.Test.YtlboachgeepadaaPx8
namespace Go.Proofs.Ytlboachgeepadaa.Spec
open Go.RowKit Go.Proofs.Ytlboachgeepadaa.P Go.Proofs.YtlboachgeepadaaW.PrintWords Go.Proofs.YtlboachgeepadaaW.PrintLast

theorem has_l {l : List Int} {a : Int} (hl : l.length ≤ 100000) : ∀ (d i : Nat), l.length - i = d → i ≤ l.length → Ev (fun k => drydockref19_Has.l0 k l a i) (decide (a ∈ l.drop i)) := by
  intro d
  induction d with
  | zero =>
    intro i hd hi
    refine Ev.step (f := fun _ => _) (fun k => by simp only [drydockref19_Has.l0]; rw [if_neg (by omega)]) ?_
    refine ev_now ?_
    rw [List.drop_eq_nil_of_le (by omega)]; rfl
  | succ d ih =>
    intro i hd hi
    have hlt : i < l.length := by omega
    have e := List.drop_eq_getElem_cons hlt
    refine Ev.step (f := fun k => if l[i] = a then some true else drydockref19_Has.l0 k l a ((i + 1 : Nat) : Int)) (fun k => by simp only [drydockref19_Has.l0]; rw [if_pos (by omega), if_pos (by omega), rd_nat l i hlt, wrap_up (by omega)]) ?_
    rw [e]
    refine ite_ev (fun h => ev_now ?_) (fun h => ?_)
    · simp [h]
    · have := ih (i + 1) (by omega) (by omega)
      rw [decide_eq_decide.2 (show a ∈ l[i] :: l.drop (i + 1) ↔ a ∈ l.drop (i + 1) by rw [List.mem_cons]; exact or_iff_right fun x => h x.symm)]
      exact this
theorem has_ev {l : List Int} (a : Int) (hl : l.length ≤ 100000) : Ev (fun k => drydockref19_Has.f k l a) (decide (a ∈ l)) := by
  have := has_l (a := a) hl l.length 0 (by omega) (by omega)
  simpa [drydockref19_Has.f] using this

theorem same_l {l m : List Int} {o p : Bool} (hl : l.length ≤ 100000) (hm : l.length = m.length) : ∀ (d i : Nat), l.length - i = d → i ≤ l.length → Ev (fun k => drydockref19_Same.l0 k i l o m p) (decide (l.drop i = m.drop i)) := by
  intro d
  induction d with
  | zero =>
    intro i hd hi
    refine Ev.step (f := fun _ => _) (fun k => by simp only [drydockref19_Same.l0]; rw [if_neg (by omega)]) ?_
    refine ev_now ?_
    rw [List.drop_eq_nil_of_le (by omega), List.drop_eq_nil_of_le (by omega)]; rfl
  | succ d ih =>
    intro i hd hi
    have hlt : i < l.length := by omega
    have hlt2 : i < m.length := by omega
    refine Ev.step (f := fun k => if l[i] = m[i] then drydockref19_Same.l0 k ((i + 1 : Nat) : Int) l o m p else some false) (fun k => by simp only [drydockref19_Same.l0]; rw [if_pos (by omega), if_pos (by omega), if_pos (by omega), rd_nat l i hlt, rd_nat m i hlt2, wrap_up (by omega)]) ?_
    rw [List.drop_eq_getElem_cons hlt, List.drop_eq_getElem_cons hlt2]
    refine ite_ev (fun h => ?_) (fun h => ev_now ?_)
    · have := ih (i + 1) (by omega) (by omega)
      rw [decide_eq_decide.2 (show l[i] :: l.drop (i + 1) = m[i] :: m.drop (i + 1) ↔ l.drop (i + 1) = m.drop (i + 1) by rw [List.cons.injEq]; exact and_iff_right h)]
      exact this
    · exact (decide_eq_false fun x => h (List.cons.inj x).1).symm
theorem same_ev {l m : List Int} (o p : Bool) (hl : l.length ≤ 100000) : Ev (fun k => drydockref19_Same.f k l o m p) (decide (l = m ∧ o = p)) := by
  unfold drydockref19_Same.f
  refine ite_ev (fun h => ?_) (fun h => ?_)
  · refine Ev.step (f := fun _ => _) (fun k => by simp only [drydockref19_Same.j0]; rfl) ?_
    refine ev_now ?_
    have : ¬ o = p := by simpa using h
    simp [this]
  · have ho : o = p := by simpa using h
    by_cases e : l.length = m.length
    · refine Ev.step (f := fun k => drydockref19_Same.l0 k 0 l o m p) (fun k => by simp only [drydockref19_Same.j0]; rw [if_neg (by simp [e])]) ?_
      have := same_l (o := o) (p := p) hl e l.length 0 (by omega) (by omega)
      simpa [ho] using this
    · refine Ev.step (f := fun _ => some false) (fun k => by simp only [drydockref19_Same.j0]; rw [if_pos (by simp only [bne_iff_ne]; omega)]) ?_
      refine ev_now ?_
      have : ¬ l = m := fun h => e (by rw [h])
      simp [this]

theorem awake_ev : Ev (fun k => drydocklaw19_awake.f k) true := by
  unfold drydocklaw19_awake.f
  refine Ev.bind (note_ev false 5 (by decide)) ?_
  rw [show noteD [] false 5 = ([5], false) by decide]
  refine Ev.bind (note_ev false 6 (by decide)) ?_
  rw [show noteD [5] false 6 = ([5, 6], false) by decide]
  refine Ev.bind (note_ev false 5 (by decide)) ?_
  rw [show noteD [5, 6] false 5 = ([5, 6], false) by decide]
  refine Ev.congr (f := fun k => (delta_May.f k [5, 6] false).bind fun t => if t = true then some true else none) (fun k => by simp [delta_Of.f, rd]) ?_
  refine Ev.bind (may_ev false (by decide)) ?_
  rw [show mayD [5, 6] false = true by decide]
  exact Ev.now _

end Go.Proofs.Ytlboachgeepadaa.Spec
