/- DeltaPuts, in plain lists. -/
import Derived.Test.YtlboachgeepadaaPx24
import Derived.Test.YtlboachgeepadaaSpecE
namespace Go.Proofs.Ytlboachgeepadaa.Pure
open Go.RowKit Go.Proofs.Ytlboachgeepadaa.P Go.Proofs.YtlboachgeepadaaW.PrintWords Go.Proofs.YtlboachgeepadaaW.PrintLast Go.Proofs.Ytlboachgeepadaa.Spec

theorem puts_j {l0 : List Int} {o : Bool} {a0 a1 a2 a3 a6 a7 a8 a9 a11 : Int} {l4 : List S61} {l5 : List Int} {l10 : List S63} : Ev (fun k => drydocklaw19_DeltaPuts.j0 k true true l0 o a0 a1 a2 a3 l4 l5 a6 a7 a8 a9 l10 a11) true := by
  refine Ev_succ ?_
  simp only [drydocklaw19_DeltaPuts.j0, if_true]
  exact Ev.now _
theorem puts_l {l0 : List Int} {o : Bool} {a0 a1 a2 a3 a6 a7 a8 a9 a11 : Int} {l4 : List S61} {l5 : List Int} {l10 : List S63} (h0 : l0.length ≤ 100000) (h5 : l5.length ≤ 100000) (h10 : l10.length ≤ 100000) (h10v : ∀ x ∈ l10, x.f1.length ≤ 100000) : ∀ (d i : Nat), l5.length - i = d → i ≤ l5.length →
    Ev (fun k => drydocklaw19_DeltaPuts.l0 k ((keepL l0 (l5.take i)).length : Int) i l0 o a0 a1 a2 a3 l4 l5 a6 a7 a8 a9 l10 a11 a0 a1 a2 a3 l4 (keepL l0 l5) a6 a7 a8 a9 l10 a11) true := by
  intro d
  induction d with
  | zero =>
    intro i hd hi
    refine Ev_succ ?_
    simp only [drydocklaw19_DeltaPuts.l0]
    refine neg_ev (by omega) ?_
    refine pos_ev (by rw [List.take_of_length_le (by omega)]) ?_
    refine Ev.bind (same05_refl _ _ _ _ _ h10 h10v) ?_
    refine pos_ev rfl ?_
    exact ev_now (by simp)
  | succ d ih =>
    intro i hd hi
    have hlt : i < l5.length := by omega
    have hk : keepL l0 (l5.take (i + 1)) = if hasB l0 l5[i] = true then keepL l0 (l5.take i) else keepL l0 (l5.take i) ++ [l5[i]] := keep_step hlt
    have hall : keepL l0 l5 = keepL l0 (l5.take (i + 1)) ++ keepL l0 (l5.drop (i + 1)) := by
      unfold keepL
      rw [← List.filter_append, List.take_append_drop]
    have := ih (i + 1) (by omega) (by omega)
    have hlen : (keepL l0 (l5.take i)).length ≤ i := Nat.le_trans (keep_len _ _) (by rw [List.length_take]; omega)
    refine Ev_succ ?_
    simp only [drydocklaw19_DeltaPuts.l0]
    refine pos_ev (by omega) ?_
    refine pos_ev (by omega) ?_
    rw [rd_nat l5 i hlt, wrap_up (show i < 1000000000 by omega)]
    refine Ev.bind (has_ev l5[i] h0) ?_
    refine ite_ev (fun h => ?_) (fun h => ?_)
    · rw [hk, if_pos (show hasB l0 l5[i] = true from h)] at this
      exact this
    · rw [if_neg (show ¬ hasB l0 l5[i] = true from h)] at hk
      have hx : (keepL l0 l5)[(keepL l0 (l5.take i)).length]? = some l5[i] := by
        rw [hall, hk, List.append_assoc, List.getElem?_append_right (Nat.le_refl _), Nat.sub_self]
        rfl
      obtain ⟨hy, hz⟩ := List.getElem?_eq_some_iff.1 hx
      rw [hk, List.length_append] at this
      refine neg_ev (by omega) ?_
      refine pos_ev (by omega) ?_
      refine pos_ev (by omega) ?_
      refine pos_ev (by rw [rd_nat _ _ hy]; exact hz) ?_
      rw [wrap_up (show (keepL l0 (l5.take i)).length < 1000000000 by omega)]
      exact this
theorem puts_main {l0 : List Int} {o : Bool} {a0 a1 a2 a3 a6 a7 a8 a9 a11 : Int} {l4 : List S61} {l5 : List Int} {l10 : List S63} (hm : mayD l0 o = true) (h0 : l0.length ≤ 20) (h4 : l4.length ≤ 100000) (h4v : ∀ x ∈ l4, x.f1.length ≤ 100000) (h5 : l5.length ≤ 40) (h10 : l10.length ≤ 100000) (h10v : ∀ x ∈ l10, x.f1.length ≤ 100000) :
    Ev (fun k => drydocklaw19_DeltaPuts.j0 k true false l0 o a0 a1 a2 a3 l4 l5 a6 a7 a8 a9 l10 a11) true := by
  have hp := put_eq o a0 a1 a2 a3 a6 a7 a8 a9 a11 (few_put (l0 := l0) (by omega) h4 h4v (l5 := l5) (by omega) h10 h10v)
  have hkl := keep_len l0 l5
  refine Ev_succ ?_
  simp only [drydocklaw19_DeltaPuts.j0, Bool.false_eq_true, if_false]
  rw [hp]
  simp only [Option.bind_some]
  unfold putD
  rw [if_pos hm]
  cases o with
  | true =>
    simp only [if_true]
    exact ev_now (by simp)
  | false =>
    have hq := put_eq false a0 a1 a2 a3 a6 a7 a8 a9 a11 (few_put (l0 := []) (by simp) h4 h4v (l5 := keepL l0 l5) (by omega) h10 h10v)
    have hm2 : mayD [] false = true := by decide
    unfold putD at hq
    rw [if_pos hm2, keep_nil] at hq
    simp only [Bool.false_eq_true, if_false] at hq ⊢
    rw [hq]
    simp only [Option.bind_some, if_true]
    refine neg_ev (by simp) ?_
    refine Ev.bind (same18_refl _ _ _ _ _ _ _ _ _ h4 h4v (by omega) h10 h10v) ?_
    refine pos_ev rfl ?_
    refine neg_ev (by simp) ?_
    exact puts_l (by omega) (by omega) h10 h10v l5.length 0 (by omega) (by omega)
theorem DeltaPuts : ∀ (l0_0 : List Int) (a0_1 : Bool) (a1_0 : Int) (a1_1 : Int) (a1_2 : Int) (a1_3 : Int) (l1_4 : List (S61)) (l1_5 : List Int) (a1_6 : Int) (a1_7 : Int) (a1_8 : Int) (a1_9 : Int) (l1_10 : List (S63)) (a1_11 : Int), ∃ k, drydocklaw19_DeltaPuts.f k l0_0 a0_1 a1_0 a1_1 a1_2 a1_3 l1_4 l1_5 a1_6 a1_7 a1_8 a1_9 l1_10 a1_11 = some true := by
  intro l0 o a0 a1 a2 a3 l4 l5 a6 a7 a8 a9 l10 a11
  refine Ev.rounds (g := fun k => drydocklaw19_DeltaPuts.f k l0 o a0 a1 a2 a3 l4 l5 a6 a7 a8 a9 l10 a11) ?_
  unfold drydocklaw19_DeltaPuts.f
  refine Ev.bind awake_ev ?_
  refine Ev.bind (few03_ev l4) ?_
  refine Ev.bind (few05_ev _) ?_
  refine pos_ev rfl ?_
  refine ite_ev (fun h3 => ?_) (fun _ => puts_j)
  refine ite_ev (fun h5 => ?_) (fun _ => puts_j)
  refine ite_ev (fun _ => puts_j) (fun h0 => ?_)
  refine ite_ev (fun _ => puts_j) (fun hl5 => ?_)
  refine Ev.bind (may_ev o (by omega)) ?_
  by_cases hm : mayD l0 o = true
  · rw [hm]
    exact puts_main hm (by omega) (few03_of h3).1 (few03_of h3).2 (by omega) (few05_of h5).1 (few05_of h5).2
  · rw [Bool.not_eq_true] at hm
    rw [hm]
    exact puts_j

end Go.Proofs.Ytlboachgeepadaa.Pure
