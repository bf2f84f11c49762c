/- DeltaLists: a key that is noted twice is noted once, and each that was noted is there, or there are too many: at any two lists of keys. -/
import Derived.Test.YtlboachgeepadaaPx9
import Derived.Test.YtlboachgeepadaaSpecC
namespace Go.Proofs.Ytlboachgeepadaa.Pure
open Go.RowKit Go.Proofs.Ytlboachgeepadaa.P Go.Proofs.Ytlboachgeepadaa.Spec Go.Proofs.YtlboachgeepadaaW.PrintWords Go.Proofs.YtlboachgeepadaaW.PrintLast

theorem lists_l2 {l w : List Int} (hl : l.length ≤ 20) (hn : w.Nodup) (hm : ∀ x ∈ l, x ∈ w) : ∀ (d i : Nat), l.length - i = d → i ≤ l.length → Ev (fun k => drydocklaw19_DeltaLists.l2 k l i (ofW w).1 (ofW w).2 (ofW w).1 (ofW w).2) true := by
  intro d
  have h8 := len_ofW w
  induction d with
  | zero =>
    intro i hd hi
    refine Ev.step (f := fun _ => _) (fun k => by simp only [drydocklaw19_DeltaLists.l2]; rw [if_neg (by omega)]) ?_
    refine Ev.bind (same_ev _ _ (by omega)) ?_
    simp only [and_self, decide_true, if_true]
    refine Ev.bind (may_ev _ (by omega)) ?_
    rw [may_ofW hn]
    exact Ev.now _
  | succ d ih =>
    intro i hd hi
    have hlt : i < l.length := by omega
    refine Ev.step (f := fun _ => _) (fun k => by simp only [drydocklaw19_DeltaLists.l2]; rw [if_pos (by omega), rd_nat l i hlt, wrap_up (by omega)]) ?_
    have := ih (i + 1) (by omega) (by omega)
    refine ite_ev (fun _ => this) (fun ho => ite_ev (fun _ => ?_) (fun h => absurd (show (0 : Int) ≤ (i : Int) by omega) h))
    refine Ev.bind (has_ev _ (by omega)) ?_
    have hw : ¬ w.length > 8 := by simpa [ofW] using ho
    have hin : l[i] ∈ (ofW w).1 := by
      show l[i] ∈ w.take 8
      rw [List.take_of_length_le (by omega)]
      exact hm _ (List.getElem_mem hlt)
    simp only [hin, decide_true, if_true]
    exact this
theorem lists_l1 {l m : List Int} (hl : l.length ≤ 20) (hm : m.length ≤ 20) : ∀ (d i : Nat) (w : List Int), m.length - i = d → i ≤ m.length → w.Nodup → (∀ x ∈ l, x ∈ w) → Ev (fun k => drydocklaw19_DeltaLists.l1 k l m i (ofW w).1 (ofW w).2 (ofW w).1 (ofW w).2) true := by
  intro d
  induction d with
  | zero =>
    intro i w hd hi hn hs
    refine Ev.step (f := fun k => drydocklaw19_DeltaLists.l2 k l ((0 : Nat) : Int) (ofW w).1 (ofW w).2 (ofW w).1 (ofW w).2) (fun k => ?_) (lists_l2 hl hn hs l.length 0 (by omega) (by omega))
    simp only [drydocklaw19_DeltaLists.l1]
    rw [if_neg (by omega)]
    rfl
  | succ d ih =>
    intro i w hd hi hn hs
    have hlt : i < m.length := by omega
    have h8 := len_ofW w
    have h9 := len_ofW (insW w m[i])
    refine Ev.step (f := fun _ => _) (fun k => by simp only [drydocklaw19_DeltaLists.l1]; rw [if_pos (by omega), if_pos (by omega), rd_nat m i hlt, wrap_up (by omega)]) ?_
    refine Ev.bind (note_ev _ _ (by omega)) (Ev.bind (note_ev _ _ (by omega)) ?_)
    rw [note_ins hn]
    refine Ev.bind (note_ev _ _ (by omega)) ?_
    rw [note_in (nodup_ins hn _) (mem_ins _ _)]
    exact ih (i + 1) (insW w m[i]) (by omega) (by omega) (nodup_ins hn _) (fun x hx => sub_ins (hs x hx))
theorem lists_l0 {l m : List Int} (hl : l.length ≤ 20) (hm : m.length ≤ 20) : ∀ (d i : Nat) (w : List Int), l.length - i = d → i ≤ l.length → w.Nodup → (∀ x ∈ l.take i, x ∈ w) → Ev (fun k => drydocklaw19_DeltaLists.l0 k l m i (ofW w).1 (ofW w).2 (ofW w).1 (ofW w).2) true := by
  intro d
  induction d with
  | zero =>
    intro i w hd hi hn hs
    refine Ev.step (f := fun k => drydocklaw19_DeltaLists.l1 k l m ((0 : Nat) : Int) (ofW w).1 (ofW w).2 (ofW w).1 (ofW w).2) (fun k => ?_) (lists_l1 hl hm m.length 0 w (by omega) (by omega) hn (by rwa [List.take_of_length_le (by omega)] at hs))
    simp only [drydocklaw19_DeltaLists.l0]
    rw [if_neg (by omega)]
    rfl
  | succ d ih =>
    intro i w hd hi hn hs
    have hlt : i < l.length := by omega
    have h8 := len_ofW w
    have h9 := len_ofW (insW w l[i])
    refine Ev.step (f := fun _ => _) (fun k => by simp only [drydocklaw19_DeltaLists.l0]; rw [if_pos (by omega), if_pos (by omega), rd_nat l i hlt, wrap_up (by omega)]) ?_
    refine Ev.bind (note_ev _ _ (by omega)) (Ev.bind (note_ev _ _ (by omega)) ?_)
    rw [note_ins hn]
    refine Ev.bind (note_ev _ _ (by omega)) ?_
    rw [note_in (nodup_ins hn _) (mem_ins _ _)]
    refine ih (i + 1) (insW w l[i]) (by omega) (by omega) (nodup_ins hn _) (fun x hx => ?_)
    rw [List.take_succ_eq_append_getElem hlt, List.mem_append] at hx
    rcases hx with hx | hx
    · exact sub_ins (hs x hx)
    · rw [List.mem_singleton] at hx; subst hx; exact mem_ins _ _
theorem DeltaLists : drydocklaw19_DeltaLists.Pure := by
  intro l m _ _ _ _ _ _
  refine Ev.rounds (g := fun k => drydocklaw19_DeltaLists.f k l m) ?_
  unfold drydocklaw19_DeltaLists.f
  refine Ev.bind awake_ev ?_
  simp only [if_true]
  refine ite_ev (fun _ => Ev.step (f := fun _ => some true) (fun k => by simp only [drydocklaw19_DeltaLists.j0]; rfl) (Ev.now _)) (fun hl => ?_)
  refine Ev.step (f := fun _ => _) (fun k => by simp only [drydocklaw19_DeltaLists.j0]; rfl) ?_
  refine ite_ev (fun _ => Ev.now _) (fun h => ?_)
  have hm : m.length ≤ 20 := by
    have : ¬ (m.length : Int) > 20 := by simpa using h
    omega
  exact lists_l0 (by omega) hm l.length 0 [] (by omega) (by omega) List.nodup_nil (by simp)

end Go.Proofs.Ytlboachgeepadaa.Pure
