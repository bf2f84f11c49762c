/- DeltaKeeps: keys that are noted one behind the other are each there once, in order, unless there are more than eight: at every list of keys. -/
import Derived.Test.YtlboachgeepadaaPx7
import Derived.Test.YtlboachgeepadaaSpecC
namespace Go.Proofs.Ytlboachgeepadaa.Pure
open Go.RowKit Go.Proofs.Ytlboachgeepadaa.P Go.Proofs.Ytlboachgeepadaa.Spec Go.Proofs.YtlboachgeepadaaW.PrintWords Go.Proofs.YtlboachgeepadaaW.PrintLast

theorem keeps_l1 {w : List Int} {o : Bool} : ∀ (d i : Nat), (w.take 8).length - i = d → i ≤ (w.take 8).length → Ev (fun k => drydocklaw19_DeltaKeeps.l1 k w i (w.take 8) o) true := by
  intro d
  have h8 : (w.take 8).length ≤ 8 := by simp; omega
  have hw : (w.take 8).length ≤ w.length := by simp; omega
  induction d with
  | zero =>
    intro i hd hi
    exact Ev.step (f := fun _ => some true) (fun k => by simp only [drydocklaw19_DeltaKeeps.l1]; rw [if_neg (by omega)]) (Ev.now _)
  | succ d ih =>
    intro i hd hi
    have hlt : i < (w.take 8).length := by omega
    have hlt2 : i < w.length := by omega
    refine Ev.step (f := fun k => drydocklaw19_DeltaKeeps.l1 k w ((i + 1 : Nat) : Int) (w.take 8) o) (fun k => ?_) (ih (i + 1) (by omega) (by omega))
    simp only [drydocklaw19_DeltaKeeps.l1]
    rw [if_pos (by omega), if_pos (by omega), if_pos (by omega), rd_nat _ i hlt, rd_nat w i hlt2, wrap_up (by omega), if_pos (by rw [List.getElem_take])]
theorem keeps_l0 {l : List Int} (hl : l.length ≤ 40) : ∀ (d i : Nat) (w : List Int), l.length - i = d → i ≤ l.length → w.Nodup → w.length ≤ i → Ev (fun k => drydocklaw19_DeltaKeeps.l0 k l w i (ofW w).1 (ofW w).2) true := by
  intro d
  induction d with
  | zero =>
    intro i w hd hi hn hw
    refine Ev.step (f := fun k => drydocklaw19_DeltaKeeps.l1 k w ((0 : Nat) : Int) (w.take 8) (ofW w).2) (fun k => ?_) (keeps_l1 (w.take 8).length 0 (by omega) (by omega))
    simp only [drydocklaw19_DeltaKeeps.l0]
    rw [if_neg (by omega)]
    rfl
  | succ d ih =>
    intro i w hd hi hn hw
    have hlt : i < l.length := by omega
    have h8 : (ofW w).1.length ≤ 8 := by simp [ofW]; omega
    refine Ev.step (f := fun _ => _) (fun k => by simp only [drydocklaw19_DeltaKeeps.l0]; rw [if_pos (by omega), if_pos (by omega), rd_nat l i hlt, wrap_up (by omega)]) ?_
    refine Ev.bind (note_ev _ _ (by omega)) ?_
    refine Ev.bind (has_ev _ (by omega)) ?_
    by_cases hm : l[i] ∈ w
    · simp only [hm, decide_true, if_true]
      rw [note_in hn hm]
      refine Ev.bind (may_ev _ (by omega)) ?_
      rw [may_ofW hn]
      have e1 : ¬ ((ofW w).2 != decide ((w.length : Int) > 8)) = true := by simp [ofW]; omega
      have e2 : ¬ ((ofW w).1.length : Int) > (w.length : Int) := by simp [ofW]; omega
      have e3 : (w.length : Int) ≤ 8 → ((ofW w).1.length : Int) = (w.length : Int) := by simp [ofW]; omega
      simp only [if_true, if_neg e1, if_neg e2]
      have := ih (i + 1) w (by omega) (by omega) hn (by omega)
      exact ite_ev (fun h => ite_ev (fun _ => this) (fun h' => absurd (e3 h) h')) (fun _ => this)
    · simp only [hm, decide_false, Bool.false_eq_true, if_false]
      rw [note_out hn hm]
      have hn2 : (w ++ [l[i]]).Nodup := by
        rw [List.nodup_append]
        exact ⟨hn, by simp, fun a ha b hb => by simp at hb; exact fun e => hm (by rw [← hb, ← e]; exact ha)⟩
      have hlen : (w ++ [l[i]]).length = w.length + 1 := by simp
      have h9 : (ofW (w ++ [l[i]])).1.length ≤ 8 := by simp [ofW]; omega
      refine ite_ev (fun _ => ?_) (fun h => absurd (show w.length < 35184372088832 by omega) h)
      simp only [Option.bind_some]
      generalize hv : w ++ [l[i]] = v at *
      refine Ev.bind (may_ev _ (by omega)) ?_
      rw [may_ofW hn2]
      have e1 : ¬ ((ofW v).2 != decide ((v.length : Int) > 8)) = true := by simp [ofW]; omega
      have e2 : ¬ ((ofW v).1.length : Int) > (v.length : Int) := by simp [ofW]; omega
      have e3 : (v.length : Int) ≤ 8 → ((ofW v).1.length : Int) = (v.length : Int) := by simp [ofW]; omega
      simp only [if_true, if_neg e1, if_neg e2]
      have := ih (i + 1) v (by omega) (by omega) hn2 (by omega)
      exact ite_ev (fun h => ite_ev (fun _ => this) (fun h' => absurd (e3 h) h')) (fun _ => this)
theorem DeltaKeeps : drydocklaw19_DeltaKeeps.Pure := by
  intro l _ _ _
  refine Ev.rounds (g := fun k => drydocklaw19_DeltaKeeps.f k l) ?_
  unfold drydocklaw19_DeltaKeeps.f
  refine Ev.bind awake_ev ?_
  simp only [if_true]
  refine Ev.step (f := fun _ => _) (fun k => by simp only [drydocklaw19_DeltaKeeps.j0]; rfl) ?_
  refine ite_ev (fun _ => Ev.now _) (fun h => ?_)
  have hl : l.length ≤ 40 := by
    have : ¬ (l.length : Int) > 40 := by simpa using h
    omega
  exact keeps_l0 hl l.length 0 [] (by omega) (by omega) List.nodup_nil (Nat.le_refl _)

end Go.Proofs.Ytlboachgeepadaa.Pure
