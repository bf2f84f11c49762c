/- EpochClears -/
import Derived.Test.YtipnfcicpnmggaaPx23 -- the law
import Derived.Test.YtipnfcicpnmggaaSpecB
namespace Go.Proofs.Ytipnfcicpnmggaa.Pure
open Go.Proofs.Ytipnfcicpnmggaa.Spec Go.RowKit Go.Proofs.Ytipnfcicpnmggaa.P Go.Proofs.YtipnfcicpnmggaaW.PrintWords Go.Proofs.YtipnfcicpnmggaaW.PrintLast

theorem rd_nat' (l : List Int) (i : Nat) (h : i < l.length) : rd l (i : Int) = l[i] := by
  unfold rd; rw [Int.toNat_natCast, List.getD_eq_getElem?_getD, List.getElem?_eq_getElem h]; rfl
theorem rd_app (a b c d : Int) (l r : List S43) : rdL a b c d (l ++ r) = rdL a b c d l ++ rdL a b c d r := by
  unfold rdL; rw [List.filter_append, List.map_append]
theorem lf_app (a b c d : Int) (l r : List S43) : lfL a b c d (l ++ r) = lfL a b c d l ++ lfL a b c d r := by
  unfold lfL; rw [List.filter_append]
theorem len_both (a b c d : Int) (l : List S43) : (lfL a b c d l).length + (rdL a b c d l).length = l.length := by
  induction l with
  | nil => rfl
  | cons x r ih => rw [lf_cons, rd_cons]; split <;> simp only [List.length_cons] <;> omega
theorem rd_lf (a b c d : Int) (l : List S43) : rdL a b c d (lfL a b c d l) = [] := by
  unfold rdL lfL
  rw [List.filter_filter, List.filter_eq_nil_iff.2 (by intro x _; simp)]; rfl
theorem rd_sub {a b c d : Int} {l : List S43} {z : Int} (h : z ∈ rdL a b c d l) : z ∈ l.map (·.f0) := by
  unfold rdL at h
  obtain ⟨y, hy, rfl⟩ := List.mem_map.1 h
  exact List.mem_map_of_mem (List.mem_filter.1 hy).1
theorem clears_l {n a b c d : Int} {l : List S43} (hl : l.length ≤ 16) (hn : (l.map (·.f0)).Nodup) : ∀ (q i : Nat), l.length - i = q → i ≤ l.length → Ev (fun k => drydocklaw17_EpochClears.l0 k (rdL a b c d l) ((rdL a b c d (l.take i)).length : Int) ((lfL a b c d (l.take i)).length : Int) (i : Int) n a b c d l n a b c d (lfL a b c d l)) true := by
  intro q
  induction q with
  | zero =>
    intro i hd hi
    exact Ev.step (f := fun _ => some true) (fun k => by simp only [drydocklaw17_EpochClears.l0]; rw [if_neg (by omega)]) (Ev.now _)
  | succ q ih =>
    intro i hd hi
    have hlt : i < l.length := by omega
    have ht : l.take (i + 1) = l.take i ++ [l[i]] := by rw [List.take_add_one, List.getElem?_eq_getElem hlt]; rfl
    have hsp : l = l.take i ++ (l[i] :: l.drop (i + 1)) := by rw [← List.drop_eq_getElem_cons hlt, List.take_append_drop]
    have er : rdL a b c d l = rdL a b c d (l.take i) ++ rdL a b c d (l[i] :: l.drop (i + 1)) := by rw [← rd_app, ← hsp]
    have ef : lfL a b c d l = lfL a b c d (l.take i) ++ lfL a b c d (l[i] :: l.drop (i + 1)) := by rw [← lf_app, ← hsp]
    have hlr := rd_len a b c d (l.take i)
    have hlf : (lfL a b c d (l.take i)).length ≤ 16 := by have := len_both a b c d (l.take i); have := List.length_take_le i l; omega
    have hlr2 : (rdL a b c d (l.take i)).length ≤ 16 := by have := List.length_take_le i l; omega
    have hnext := ih (i + 1) (by omega) (by omega)
    by_cases hr : rdB a b c d l[i].f1 = true
    · rw [rd_cons, if_pos hr] at er
      have hA : (rdL a b c d (l.take i)).length < (rdL a b c d l).length := by rw [er]; simp
      have hrd : rd (rdL a b c d l) ((rdL a b c d (l.take i)).length : Int) = l[i].f0 := by
        rw [rd_nat' _ _ hA]; simp [er]
      refine Ev.step (f := fun k => drydocklaw17_EpochClears.j3 k (rdL a b c d l) ((rdL a b c d (l.take i)).length : Int) ((lfL a b c d (l.take i)).length : Int) (i : Int) true n a b c d l n a b c d (lfL a b c d l)) (fun k => by
        simp only [drydocklaw17_EpochClears.l0]
        rw [if_pos (by omega), if_pos (by omega), if_pos (by omega), if_pos (by omega), hrd, rd_T43_nat l i hlt, beq_self_eq_true]) ?_
      refine Ev.step (f := fun k => drydocklaw17_EpochClears.l0 k (rdL a b c d l) ((rdL a b c d (l.take (i + 1))).length : Int) ((lfL a b c d (l.take (i + 1))).length : Int) ((i + 1 : Nat) : Int) n a b c d l n a b c d (lfL a b c d l)) (fun k => by
        simp only [drydocklaw17_EpochClears.j3, if_true]
        rw [wrap_up (by omega), wrap_up (by omega), ht, rd_app, lf_app, rd_cons, if_pos hr, lf_cons, if_pos hr]
        simp only [List.length_append, List.length_cons]
        simp [rdL, lfL]) hnext
    · rw [rd_cons, if_neg hr] at er
      rw [lf_cons, if_neg hr] at ef
      have hB : (lfL a b c d (l.take i)).length < (lfL a b c d l).length := by rw [ef]; simp
      have hlfd : rd_T43 (lfL a b c d l) ((lfL a b c d (l.take i)).length : Int) = l[i] := by
        rw [rd_T43_nat _ _ hB]; simp [ef]
      have hj3 : Ev (fun k => drydocklaw17_EpochClears.j3 k (rdL a b c d l) ((rdL a b c d (l.take i)).length : Int) ((lfL a b c d (l.take i)).length : Int) (i : Int) false n a b c d l n a b c d (lfL a b c d l)) true := by
        refine Ev.step (f := fun k => drydocklaw17_EpochClears.l0 k (rdL a b c d l) ((rdL a b c d (l.take (i + 1))).length : Int) ((lfL a b c d (l.take (i + 1))).length : Int) ((i + 1 : Nat) : Int) n a b c d l n a b c d (lfL a b c d l)) (fun k => by
          simp only [drydocklaw17_EpochClears.j3, Bool.false_eq_true, if_false]
          rw [if_pos (by omega), if_pos (by omega), if_pos (by omega), if_pos (by omega), hlfd, rd_T43_nat l i hlt, if_pos (by simp), wrap_up (by omega), wrap_up (by omega), ht, rd_app, lf_app, rd_cons, if_neg hr, lf_cons, if_neg hr]
          simp only [List.length_append, List.length_cons]
          simp [rdL, lfL]) hnext
      by_cases hA : (rdL a b c d (l.take i)).length < (rdL a b c d l).length
      · have hne : (rd (rdL a b c d l) ((rdL a b c d (l.take i)).length : Int) == l[i].f0) = false := by
          rw [rd_nat' _ _ hA, beq_eq_false_iff_ne]
          intro he
          have hmem : l[i].f0 ∈ rdL a b c d (l.drop (i + 1)) := by
            rw [← he]
            have hA2 := hA
            rw [er, List.length_append] at hA2
            refine List.mem_of_getElem? (i := 0) ?_
            rw [← List.getElem?_eq_getElem hA, er, List.getElem?_append_right (Nat.le_refl _), Nat.sub_self]
          have h2 := rd_sub hmem
          rw [hsp, List.map_append, List.map_cons] at hn
          have h3 := (List.nodup_append.1 hn).2.1
          exact (List.nodup_cons.1 h3).1 h2
        refine Ev.step (f := fun k => drydocklaw17_EpochClears.j3 k (rdL a b c d l) ((rdL a b c d (l.take i)).length : Int) ((lfL a b c d (l.take i)).length : Int) (i : Int) false n a b c d l n a b c d (lfL a b c d l)) (fun k => by
          simp only [drydocklaw17_EpochClears.l0]
          rw [if_pos (by omega), if_pos (by omega), if_pos (by omega), if_pos (by omega), rd_T43_nat l i hlt, hne]) hj3
      · refine Ev.step (f := fun k => drydocklaw17_EpochClears.j3 k (rdL a b c d l) ((rdL a b c d (l.take i)).length : Int) ((lfL a b c d (l.take i)).length : Int) (i : Int) false n a b c d l n a b c d (lfL a b c d l)) (fun k => by
          simp only [drydocklaw17_EpochClears.l0]
          rw [if_pos (by omega), if_neg (by omega)]) hj3
theorem EpochClears : ∀ (a0_0 : Int) (a0_1 : Int) (a0_2 : Int) (a0_3 : Int) (a0_4 : Int) (l0_5 : List (S43)), (((Lit.int .i64 a0_0).wf = true) ∧ (((Lit.int .i64 a0_1).wf = true) ∧ ((Lit.int .i64 a0_2).wf = true) ∧ ((Lit.int .i64 a0_3).wf = true) ∧ ((Lit.int .i64 a0_4).wf = true)) ∧ (l0_5.length ≤ 9223372036854775807 ∧ ∀ x_ ∈ l0_5, (((Lit.int .i64 x_.f0).wf = true) ∧ ((Lit.int .i64 x_.f1).wf = true)))) → ∃ k, drydocklaw17_EpochClears.f k a0_0 a0_1 a0_2 a0_3 a0_4 l0_5 = some true := by
  intro n a b c d l ⟨_, _, hl, _⟩
  suffices h : Ev (fun k => drydocklaw17_EpochClears.f k n a b c d l) true from h.rounds
  unfold drydocklaw17_EpochClears.f
  refine Ev.bind awake_ev ?_
  simp only [if_true]
  refine Ev.bind (may_ev n a b c d hl) ?_
  by_cases hm : mayE n a b c d l = true
  · rw [hm]
    obtain ⟨hn, hl16, ha, hb, hc, hd, hr⟩ := mayE_iff.1 hm
    have hlen := len_both a b c d l
    have hm2 : mayE n a b c d (lfL a b c d l) = true := mayE_iff.2 ⟨hn, by omega, ha, hb, hc, hd, rest_filter _ hr⟩
    refine Ev.step (f := fun k => _) (fun k => by simp only [drydocklaw17_EpochClears.j0, Bool.not_true, Bool.false_eq_true, if_false]; rfl) ?_
    refine Ev.bind (Ready_ev n a b c d (by omega)) ?_
    refine Ev.bind (clear_ev n a b c d (by omega)) ?_
    rw [show clS n a b c d l = (n, a, b, c, d, lfL a b c d l, rdL a b c d l) from by unfold clS; rw [if_pos hm]]
    refine Ev.bind (ints_self (l := rdL a b c d l) (by omega)) ?_
    simp only [if_true]
    refine Ev.bind (may_ev n a b c d (by omega)) ?_
    rw [hm2]
    simp only [if_true, beq_self_eq_true, Bool.not_true, Bool.or_self, Bool.false_eq_true, if_false]
    rw [wrap_s (by omega) (by omega)]
    simp only [if_pos (show ((lfL a b c d l).length : Int) + ((rdL a b c d l).length : Int) = (l.length : Int) by omega)]
    refine Ev.bind (Ready_ev n a b c d (by omega)) ?_
    rw [show (clS n a b c d (lfL a b c d l)).2.2.2.2.2.2 = [] from by unfold clS; rw [if_pos hm2]; exact rd_lf a b c d l]
    refine Ev.step (f := fun k => drydocklaw17_EpochClears.l0 k (rdL a b c d l) ((rdL a b c d (l.take 0)).length : Int) ((lfL a b c d (l.take 0)).length : Int) ((0 : Nat) : Int) n a b c d l n a b c d (lfL a b c d l)) (fun k => by simp only [drydocklaw17_EpochClears.j1]; rfl) ?_
    exact clears_l hl16 (rest_nodup hr) _ 0 rfl (by omega)
  · simp only [Bool.not_eq_true] at hm
    rw [hm]
    exact Ev.step (f := fun _ => some true) (fun k => by simp only [drydocklaw17_EpochClears.j0, Bool.not_false, if_true]) (Ev.now _)

end Go.Proofs.Ytipnfcicpnmggaa.Pure
