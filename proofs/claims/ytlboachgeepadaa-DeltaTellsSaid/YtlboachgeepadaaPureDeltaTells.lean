/- DeltaTells, in plain lists: what the document's Own of layers 03, 05 and 18, and its May, Note, Of and Put of layer 19 come to, and the law. -/
import Derived.Test.YtlboachgeepadaaPx23
import Derived.Test.YtlboachgeepadaaSpecE
import Derived.Test.YtlboachgeepadaaPx5
import Derived.Test.YtlboachgeepadaaPx12
import Derived.Test.YtlboachgeepadaaPx13
import Derived.Test.YtlboachgeepadaaPx14
import Derived.Test.YtlboachgeepadaaPx15
import Derived.Test.YtlboachgeepadaaPx16
import Derived.Test.YtlboachgeepadaaPx17
import Derived.Test.YtlboachgeepadaaPx18
namespace Go.Proofs.Ytlboachgeepadaa.Spec
open Go.RowKit Go.Proofs.Ytlboachgeepadaa.P Go.Proofs.YtlboachgeepadaaW.PrintWords Go.Proofs.YtlboachgeepadaaW.PrintLast

/-! ### of its own -/
theorem own03_l {l : List S61} (hl : l.length ≤ 100000) (hv : ∀ x ∈ l, x.f1.length ≤ 100000) : ∀ (d i : Nat), l.length - i = d → i ≤ l.length → Ev (fun k => drydockref03_Own.l0 k i l (l.take i)) l := by
  intro d
  induction d with
  | zero =>
    intro i hd hi
    refine Ev.step (f := fun _ => some l) (fun k => by simp only [drydockref03_Own.l0]; rw [if_neg (by omega), List.take_of_length_le (by omega)]) (Ev.now _)
  | succ d ih =>
    intro i hd hi
    have hlt : i < l.length := by omega
    have h1 := hv _ (List.getElem_mem hlt)
    refine Ev.step (f := fun k => drydockref03_Own.l0 k ((i + 1 : Nat) : Int) l (l.take (i + 1))) (fun k => ?_) (ih (i + 1) (by omega) (by omega))
    simp only [drydockref03_Own.l0]
    rw [if_pos (by omega), if_pos (by omega), rd61 l i hlt, if_pos (by simp only [List.length_nil]; omega), if_pos (by rw [List.length_take]; omega), wrap_up (by omega), List.take_add_one, List.getElem?_eq_getElem hlt]
    rfl
theorem own03_ev {l : List S61} (hl : l.length ≤ 100000) (hv : ∀ x ∈ l, x.f1.length ≤ 100000) : Ev (fun k => drydockref03_Own.f k l) l := by
  have := own03_l hl hv l.length 0 (by omega) (by omega)
  simpa [drydockref03_Own.f] using this
theorem own05_l {a0 a1 a2 a3 a5 : Int} {l : List S63} (hl : l.length ≤ 100000) (hv : ∀ x ∈ l, x.f1.length ≤ 100000) : ∀ (d i : Nat), l.length - i = d → i ≤ l.length → Ev (fun k => drydockref05_Own.l0 k i a0 a1 a2 a3 l a5 a0 a1 a2 a3 (l.take i) a5) (a0, a1, a2, a3, l, a5) := by
  intro d
  induction d with
  | zero =>
    intro i hd hi
    refine Ev.step (f := fun _ => some (a0, a1, a2, a3, l, a5)) (fun k => by simp only [drydockref05_Own.l0]; rw [if_neg (by omega), List.take_of_length_le (by omega)]) (Ev.now _)
  | succ d ih =>
    intro i hd hi
    have hlt : i < l.length := by omega
    have h1 := hv _ (List.getElem_mem hlt)
    refine Ev.step (f := fun k => drydockref05_Own.l0 k ((i + 1 : Nat) : Int) a0 a1 a2 a3 l a5 a0 a1 a2 a3 (l.take (i + 1)) a5) (fun k => ?_) (ih (i + 1) (by omega) (by omega))
    simp only [drydockref05_Own.l0]
    rw [if_pos (by omega), if_pos (by omega), rd63 l i hlt, if_pos (by simp only [List.length_nil]; omega), if_pos (by rw [List.length_take]; omega), wrap_up (by omega), List.take_add_one, List.getElem?_eq_getElem hlt]
    rfl
theorem own05_ev (a0 a1 a2 a3 a5 : Int) {l : List S63} (hl : l.length ≤ 100000) (hv : ∀ x ∈ l, x.f1.length ≤ 100000) : Ev (fun k => drydockref05_Own.f k a0 a1 a2 a3 l a5) (a0, a1, a2, a3, l, a5) := by
  have := own05_l (a0 := a0) (a1 := a1) (a2 := a2) (a3 := a3) (a5 := a5) hl hv l.length 0 (by omega) (by omega)
  simpa [drydockref05_Own.f] using this
theorem own18_ev (a0 a1 a2 a3 a6 a7 a8 a9 a11 : Int) {l4 : List S61} {l5 : List Int} {l10 : List S63} (h4 : l4.length ≤ 100000) (h4v : ∀ x ∈ l4, x.f1.length ≤ 100000) (h5 : l5.length ≤ 100000) (h10 : l10.length ≤ 100000) (h10v : ∀ x ∈ l10, x.f1.length ≤ 100000) :
    Ev (fun k => drydockref18_Own.f k a0 a1 a2 a3 l4 l5 a6 a7 a8 a9 l10 a11) (a0, a1, a2, a3, l4, l5, a6, a7, a8, a9, l10, a11) := by
  unfold drydockref18_Own.f
  refine Ev.bind (own03_ev h4 h4v) ?_
  refine ite_ev (fun _ => ?_) (fun h => absurd (show ([] : List Int).length + l5.length < 35184372088832 by simp only [List.length_nil]; omega) h)
  refine Ev.bind (own05_ev a6 a7 a8 a9 a11 h10 h10v) ?_
  exact Ev.now _

/-! ### the document's May, Note, Of and Put -/
theorem refmay_l {l : List Int} {o : Bool} (hl : l.length ≤ 100000) : ∀ (d i : Nat), l.length - i = d → i ≤ l.length → (∀ j (h : j < l.length), j < i → l[j] ∉ l.take j) → Ev (fun k => drydockref19_May.l0 k i l o) (mayD l o) := by
  intro d
  induction d with
  | zero =>
    intro i hd hi hb
    have hn : l.Nodup := nodup_at.2 fun j h => hb j h (by omega)
    refine Ev.step (f := fun _ => _) (fun k => by simp only [drydockref19_May.l0]; rw [if_neg (by omega)]) ?_
    unfold mayD
    rw [decide_eq_true hn]
    refine ite_ev (fun h => ?_) (fun h => ?_)
    · refine ite_ev (fun ho => ev_now ?_) (fun ho => ev_now ?_)
      · rw [ho, decide_eq_true (show l.length ≤ 8 by omega), decide_eq_false (show ¬ l.length = 8 by omega)]
        exact beq_eq_false_iff_ne.2 (by omega)
      · rw [Bool.not_eq_true _ |>.mp ho, decide_eq_true (show l.length ≤ 8 by omega)]; rfl
    · refine ev_now ?_
      by_cases e : l.length = 8
      · rw [decide_eq_true (show l.length ≤ 8 by omega), decide_eq_true e, Bool.or_true]
        exact beq_iff_eq.2 (by omega)
      · rw [decide_eq_false (show ¬ l.length ≤ 8 by omega)]
        exact beq_eq_false_iff_ne.2 (by omega)
  | succ d ih =>
    intro i hd hi hb
    have hlt : i < l.length := by omega
    refine Ev.step (f := fun k => (drydockref19_Has.f k (l.take i) l[i]).bind fun t => if t = true then some false else drydockref19_May.l0 k ((i + 1 : Nat) : Int) l o) (fun k => by simp only [drydockref19_May.l0]; rw [if_pos (by omega), if_pos (by omega), if_pos (by omega), rd_nat l i hlt, wrap_up (by omega), Int.toNat_natCast]) ?_
    refine Ev.bind (has_ev l[i] (by rw [List.length_take]; omega)) ?_
    refine ite_ev (fun h => ev_now ?_) (fun h => ?_)
    · have : ¬ l.Nodup := fun hn => nodup_at.1 hn i hlt (of_decide_eq_true h)
      simp [mayD, this]
    · refine ih (i + 1) (by omega) (by omega) fun j hj hji => ?_
      rcases Nat.lt_succ_iff_lt_or_eq.1 hji with h1 | rfl
      · exact hb j hj h1
      · exact fun hm => h (decide_eq_true hm)
theorem refmay_ev {l : List Int} (o : Bool) (hl : l.length ≤ 100000) : Ev (fun k => drydockref19_May.f k l o) (mayD l o) := by
  have := refmay_l (o := o) hl l.length 0 (by omega) (by omega) (fun j h h0 => absurd h0 (Nat.not_lt_zero j))
  simpa [drydockref19_May.f] using this
theorem refnote_ev {l : List Int} (o : Bool) (a : Int) (hl : l.length ≤ 100000) : Ev (fun k => drydockref19_Note.f k l o a) (noteD l o a) := by
  unfold drydockref19_Note.f
  refine pos_ev (by simp only [List.length_nil]; omega) ?_
  simp only [Option.bind_some, List.nil_append]
  refine Ev.bind (refmay_ev o hl) ?_
  unfold noteD
  refine ite_ev (fun h => ?_) (fun h => ?_)
  · rw [if_pos h]
    have h8 : l.length ≤ 8 := by
      unfold mayD at h
      simp only [Bool.and_eq_true, decide_eq_true_eq] at h
      exact h.2.1
    refine Ev.bind (has_ev a hl) ?_
    refine Ev.step (f := fun _ => _) (fun k => by simp only [drydockref19_Note.j0]; rfl) ?_
    refine ite_ev (fun h1 => ?_) (fun h1 => ?_)
    · rw [if_pos (of_decide_eq_true h1)]; exact Ev.now _
    · have h2 : a ∉ l := by simpa using h1
      rw [if_neg h2]
      refine ite_ev (fun h3 => ?_) (fun h3 => ?_)
      · rw [if_pos (show l.length = 8 by omega)]; exact Ev.now _
      · rw [if_neg (show ¬ l.length = 8 by omega)]
        exact ite_ev (fun h4 => Ev.now _) (fun h4 => absurd (show l.length < 35184372088832 by omega) h4)
  · rw [if_neg h]
    exact Ev.step (f := fun _ => some (l, o)) (fun k => by simp [drydockref19_Note.j0]) (Ev.now _)
/-- What a helper changes. -/
def ofD (a0 : Int) (l : List Int) : Int × Int × Bool := if (a0 = 1 ∧ l.length = 4) ∨ (a0 = 2 ∧ l.length = 2) then (rd l 0, rd l 1, true) else (0, 0, false)
theorem of_eq (a0 : Int) (l : List Int) : delta_Of.f a0 l = some (ofD a0 l) := by
  unfold delta_Of.f ofD
  by_cases h1 : a0 = 1
  · subst h1
    by_cases h4 : l.length = 4
    · rw [if_pos rfl, if_pos (by omega), if_pos (by omega), if_pos (by omega), if_pos (.inl ⟨rfl, h4⟩)]
    · rw [if_pos rfl, if_neg (by omega), if_neg (by decide), if_neg (by omega)]
  · by_cases h2 : a0 = 2
    · subst h2
      by_cases h4 : l.length = 2
      · rw [if_neg (by decide), if_pos rfl, if_pos (by omega), if_pos (by omega), if_pos (by omega), if_pos (.inr ⟨rfl, h4⟩)]
      · rw [if_neg (by decide), if_pos rfl, if_neg (by omega), if_neg (by omega)]
    · rw [if_neg h1, if_neg h2, if_neg (by omega)]
theorem refof_ev (a0 : Int) (l : List Int) : Ev (fun k => drydockref19_Of.f k a0 l) (ofD a0 l) := by
  unfold drydockref19_Of.f ofD
  by_cases h1 : a0 = 1
  · subst h1
    refine pos_ev rfl ?_
    by_cases h4 : l.length = 4
    · rw [if_pos (.inl ⟨rfl, h4⟩)]
      exact Ev.step (f := fun _ => some (rd l 0, rd l 1, true)) (fun k => by simp only [drydockref19_Of.j0]; rw [if_pos (beq_iff_eq.2 (by omega)), if_pos (by omega), if_pos (by omega)]) (Ev.now _)
    · rw [if_neg (by omega)]
      exact Ev.step (f := fun _ => some (0, 0, false)) (fun k => by simp only [drydockref19_Of.j0]; rw [if_neg (by rw [beq_iff_eq]; omega), if_neg (by decide)]) (Ev.now _)
  · refine neg_ev h1 ?_
    by_cases h2 : a0 = 2
    · subst h2
      by_cases h4 : l.length = 2
      · rw [if_pos (.inr ⟨rfl, h4⟩)]
        exact Ev.step (f := fun _ => some (rd l 0, rd l 1, true)) (fun k => by simp only [drydockref19_Of.j0]; rw [if_neg (by decide), if_pos trivial, if_pos (by omega), if_pos (by omega), if_pos (by omega)]) (Ev.now _)
      · rw [if_neg (by omega)]
        exact Ev.step (f := fun _ => some (0, 0, false)) (fun k => by simp only [drydockref19_Of.j0]; rw [if_neg (by decide), if_pos trivial, if_neg (by omega)]) (Ev.now _)
    · rw [if_neg (by omega)]
      exact Ev.step (f := fun _ => some (0, 0, false)) (fun k => by simp only [drydockref19_Of.j0]; rw [if_neg (by decide), if_neg h2]) (Ev.now _)
theorem keep_go {L xs : List Int} {j : Nat} (h : j < xs.length) : keepL L (xs.take (j + 1)) = if hasB L xs[j] = true then keepL L (xs.take j) else keepL L (xs.take j) ++ [xs[j]] := keep_step h
theorem refput_l {l0 : List Int} {o : Bool} {a0 a1 a2 a3 a6 a7 a8 a9 a11 : Int} {l4 : List S61} {l5 : List Int} {l10 : List S63} (h0 : l0.length ≤ 100000) (h5 : l5.length ≤ 100000) : ∀ (d i : Nat), l5.length - i = d → i ≤ l5.length →
    Ev (fun k => drydockref19_Put.l0 k i l0 o a0 a1 a2 a3 l4 l5 a6 a7 a8 a9 l10 a11 a0 a1 a2 a3 l4 (keepL l0 (l5.take i)) a6 a7 a8 a9 l10 a11) ([], false, a0, a1, a2, a3, l4, keepL l0 l5, a6, a7, a8, a9, l10, a11, 0) := by
  intro d
  induction d with
  | zero =>
    intro i hd hi
    exact Ev.step (f := fun _ => some ([], false, a0, a1, a2, a3, l4, keepL l0 l5, a6, a7, a8, a9, l10, a11, 0)) (fun k => by simp only [drydockref19_Put.l0]; rw [if_neg (by omega), List.take_of_length_le (by omega)]) (Ev.now _)
  | succ d ih =>
    intro i hd hi
    have hlt : i < l5.length := by omega
    refine Ev.step (f := fun k => (drydockref19_Has.f k l0 l5[i]).bind fun t => if t = true then drydockref19_Put.l0 k ((i + 1 : Nat) : Int) l0 o a0 a1 a2 a3 l4 l5 a6 a7 a8 a9 l10 a11 a0 a1 a2 a3 l4 (keepL l0 (l5.take i)) a6 a7 a8 a9 l10 a11 else if (keepL l0 (l5.take i)).length < 35184372088832 then drydockref19_Put.l0 k ((i + 1 : Nat) : Int) l0 o a0 a1 a2 a3 l4 l5 a6 a7 a8 a9 l10 a11 a0 a1 a2 a3 l4 (keepL l0 (l5.take i) ++ [l5[i]]) a6 a7 a8 a9 l10 a11 else none) (fun k => by simp only [drydockref19_Put.l0]; rw [if_pos (by omega), if_pos (by omega), rd_nat l5 i hlt, wrap_up (by omega)]) ?_
    have hlen : (keepL l0 (l5.take i)).length ≤ i := Nat.le_trans (List.length_filter_le _ _) (by rw [List.length_take]; omega)
    have := ih (i + 1) (by omega) (by omega)
    rw [keep_go hlt] at this
    refine Ev.bind (has_ev l5[i] h0) ?_
    refine ite_ev (fun h => ?_) (fun h => ?_)
    · rw [if_pos (show hasB l0 l5[i] = true from h)] at this
      exact this
    · rw [if_neg (show ¬ hasB l0 l5[i] = true from h)] at this
      exact pos_ev (by omega) this
theorem refput_ev {l0 : List Int} (o : Bool) (a0 a1 a2 a3 a6 a7 a8 a9 a11 : Int) {l4 : List S61} {l5 : List Int} {l10 : List S63} (h0 : l0.length ≤ 100000) (h4 : l4.length ≤ 100000) (h4v : ∀ x ∈ l4, x.f1.length ≤ 100000) (h5 : l5.length ≤ 100000) (h10 : l10.length ≤ 100000) (h10v : ∀ x ∈ l10, x.f1.length ≤ 100000) :
    Ev (fun k => drydockref19_Put.f k l0 o a0 a1 a2 a3 l4 l5 a6 a7 a8 a9 l10 a11) (putD l0 o a0 a1 a2 a3 l4 l5 a6 a7 a8 a9 l10 a11) := by
  unfold drydockref19_Put.f putD
  refine Ev.bind (refmay_ev o h0) ?_
  refine ite_ev (fun h => ?_) (fun h => ?_)
  · rw [if_pos h]
    refine ite_ev (fun h1 => ?_) (fun h1 => ?_)
    · rw [if_pos h1]; exact Ev.now _
    · rw [if_neg h1]
      refine Ev.bind (own18_ev a0 a1 a2 a3 a6 a7 a8 a9 a11 h4 h4v h5 h10 h10v) ?_
      exact refput_l h0 h5 l5.length 0 (by omega) (by omega)
  · rw [if_neg h]; exact Ev.now _

end Go.Proofs.Ytlboachgeepadaa.Spec
namespace Go.Proofs.Ytlboachgeepadaa.Pure
open Go.RowKit Go.Proofs.Ytlboachgeepadaa.P Go.Proofs.YtlboachgeepadaaW.PrintWords Go.Proofs.YtlboachgeepadaaW.PrintLast Go.Proofs.Ytlboachgeepadaa.Spec

theorem tells_j {a1 a2 : Int} {l3 : List Int} {l0 : List Int} {o : Bool} {a0 a1_ a2_ a3 a6 a7 a8 a9 a11 : Int} {l4 : List S61} {l5 : List Int} {l10 : List S63} : Ev (fun k => drydocklaw19_DeltaTells.j0 k a1 a2 l3 true true l0 o a0 a1_ a2_ a3 l4 l5 a6 a7 a8 a9 l10 a11) true := by
  refine Ev_succ ?_
  simp only [drydocklaw19_DeltaTells.j0, if_true]
  exact Ev.now _
theorem tells_main {a1 a2 : Int} {l3 : List Int} {l0 : List Int} {o : Bool} {a0 a1_ a2_ a3 a6 a7 a8 a9 a11 : Int} {l4 : List S61} {l5 : List Int} {l10 : List S63} (h0 : l0.length ≤ 20) (h4 : l4.length ≤ 100000) (h4v : ∀ x ∈ l4, x.f1.length ≤ 100000) (h5 : l5.length ≤ 40) (h10 : l10.length ≤ 100000) (h10v : ∀ x ∈ l10, x.f1.length ≤ 100000) :
    Ev (fun k => drydocklaw19_DeltaTells.j0 k a1 a2 l3 true false l0 o a0 a1_ a2_ a3 l4 l5 a6 a7 a8 a9 l10 a11) true := by
  have hp := put_eq o a0 a1_ a2_ a3 a6 a7 a8 a9 a11 (few_put (l0 := l0) (by omega) h4 h4v (l5 := l5) (by omega) h10 h10v)
  obtain ⟨f0, f4, f4v, f5, f10, f10v⟩ := putD_few (l0 := l0) o a0 a1_ a2_ a3 a6 a7 a8 a9 a11 h4 h4v (show l5.length ≤ 100000 by omega) h10 h10v
  have hrp := refput_ev (l0 := l0) o a0 a1_ a2_ a3 a6 a7 a8 a9 a11 (by omega) h4 h4v (show l5.length ≤ 100000 by omega) h10 h10v
  refine Ev_succ ?_
  simp only [drydocklaw19_DeltaTells.j0, Bool.false_eq_true, if_false]
  rw [hp]
  simp only [of_eq, Option.bind_some]
  generalize putD l0 o a0 a1_ a2_ a3 l4 l5 a6 a7 a8 a9 l10 a11 = r at f0 f4 f4v f5 f10 f10v hrp ⊢
  clear hp
  refine Ev.bind (own18_ev a0 a1_ a2_ a3 a6 a7 a8 a9 a11 h4 h4v (by omega) h10 h10v) ?_
  refine Ev.bind (note_ev o a1 (by omega)) ?_
  refine Ev.bind (refnote_ev o a1 (by omega)) ?_
  refine Ev.bind (same19_refl _ _ (by have := note_len l0 o a1; omega)) ?_
  refine Ev.bind (refof_ev a2 l3) ?_
  refine Ev.bind hrp ?_
  refine Ev.bind (same19_refl _ _ f0) ?_
  refine pos_ev rfl ?_
  refine Ev.bind (same18_refl _ _ _ _ _ _ _ _ _ f4 f4v f5 f10 f10v) ?_
  refine pos_ev rfl ?_
  refine pos_ev rfl ?_
  refine pos_ev rfl ?_
  refine pos_ev rfl ?_
  refine pos_ev (by simp) ?_
  refine pos_ev rfl ?_
  refine Ev.bind (same18_refl _ _ _ _ _ _ _ _ _ h4 h4v (by omega) h10 h10v) ?_
  refine pos_ev rfl ?_
  refine Ev.bind (may_ev o (by omega)) ?_
  refine Ev.bind (refmay_ev o (by omega)) ?_
  exact ev_now (by simp)
theorem DeltaTells : ∀ (l0_0 : List Int) (a0_1 : Bool) (a1 : Int) (a2 : Int) (l3 : List Int) (a4_0 : Int) (a4_1 : Int) (a4_2 : Int) (a4_3 : Int) (l4_4 : List (S61)) (l4_5 : List Int) (a4_6 : Int) (a4_7 : Int) (a4_8 : Int) (a4_9 : Int) (l4_10 : List (S63)) (a4_11 : Int), ∃ k, drydocklaw19_DeltaTells.f k l0_0 a0_1 a1 a2 l3 a4_0 a4_1 a4_2 a4_3 l4_4 l4_5 a4_6 a4_7 a4_8 a4_9 l4_10 a4_11 = some true := by
  intro l0 o a1 a2 l3 a0 a1_ a2_ a3 l4 l5 a6 a7 a8 a9 l10 a11
  refine Ev.rounds (g := fun k => drydocklaw19_DeltaTells.f k l0 o a1 a2 l3 a0 a1_ a2_ a3 l4 l5 a6 a7 a8 a9 l10 a11) ?_
  unfold drydocklaw19_DeltaTells.f
  refine Ev.bind awake_ev ?_
  refine Ev.bind (few03_ev l4) ?_
  refine Ev.bind (few05_ev _) ?_
  refine pos_ev rfl ?_
  refine ite_ev (fun h3 => ?_) (fun _ => tells_j)
  refine ite_ev (fun h5 => ?_) (fun _ => tells_j)
  refine ite_ev (fun _ => tells_j) (fun h0 => ?_)
  refine ite_ev (fun _ => tells_j) (fun hl3 => ?_)
  by_cases h40 : l5.length ≤ 40
  · rw [decide_eq_false (show ¬ (l5.length : Int) > 40 by omega)]
    exact tells_main (by omega) (few03_of h3).1 (few03_of h3).2 h40 (few05_of h5).1 (few05_of h5).2
  · rw [decide_eq_true (show (l5.length : Int) > 40 by omega)]
    exact tells_j

end Go.Proofs.Ytlboachgeepadaa.Pure
