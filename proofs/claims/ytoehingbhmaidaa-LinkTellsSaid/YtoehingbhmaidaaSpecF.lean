/- What the document's answers of chapter 16 come to: the same. -/
import Derived.Test.YtoehingbhmaidaaPx12
import Derived.Test.YtoehingbhmaidaaPx15
import Derived.Test.YtoehingbhmaidaaPx18
import Derived.Test.YtoehingbhmaidaaSpecE
namespace Go.Proofs.Ytoehingbhmaidaa.Spec
open Go.RowKit Go.Proofs.Ytoehingbhmaidaa.P Go.Proofs.YtoehingbhmaidaaW.PrintWords Go.Proofs.YtoehingbhmaidaaW.PrintLast

theorem refone_f (a b : Int) : drydockref16_One.f a b = some (oneL ⟨a, b⟩) := by
  have h := one_f a b
  unfold link_one.f at h
  unfold drydockref16_One.f
  exact h
theorem reffind_l {l : List S26} (rev a : Int) (hl : l.length ≤ 100000) : ∀ (d i : Nat), l.length - i = d → i ≤ l.length → a ∉ (l.take i).map (·.f0) → Ev (fun k => drydockref16_find.l0 k a (i : Int) rev l) (fx l a 0) := by
  intro d
  induction d with
  | zero =>
    intro i hd hi hn
    rw [List.take_of_length_le (by omega)] at hn
    exact Ev.step (f := fun _ => some (-1)) (fun k => by simp only [drydockref16_find.l0]; rw [if_neg (by omega)]) (ev_now (fx_neg hn).symm)
  | succ d ih =>
    intro i hd hi hn
    have hlt : i < l.length := by omega
    by_cases h : l[i].f0 = a
    · exact Ev.step (f := fun _ => some (i : Int)) (fun k => by simp only [drydockref16_find.l0]; rw [if_pos (by omega), if_pos (by omega), rd_T26_nat l i hlt, if_pos h]) (ev_now (fx_is hlt h hn).symm)
    · refine Ev.step (f := fun k => drydockref16_find.l0 k a ((i + 1 : Nat) : Int) rev l) (fun k => by simp only [drydockref16_find.l0]; rw [if_pos (by omega), if_pos (by omega), rd_T26_nat l i hlt, if_neg h, wrap_up (by omega)]) (ih (i + 1) (by omega) (by omega) ?_)
      rw [← List.take_append_getElem hlt, List.map_append, List.mem_append]
      rintro (z | z)
      · exact hn z
      · simp at z; exact h z.symm
theorem reffind_ev {l : List S26} (rev a : Int) (hl : l.length ≤ 100000) : Ev (fun k => drydockref16_find.f k rev l a) (fx l a 0) := by
  unfold drydockref16_find.f
  exact reffind_l rev a hl l.length 0 (by omega) (by omega) (by simp)
theorem fx_lt_at {l : List S26} {i : Nat} (h : i < l.length) : fx l l[i].f0 0 < (i : Int) ↔ ¬ l[i].f0 ∉ (l.take i).map (·.f0) := by
  have hm : l[i].f0 ∈ l.map (·.f0) := List.mem_map_of_mem (List.getElem_mem h)
  obtain ⟨j, hj, h1, h2, h3⟩ := fx_pos (i := 0) hm
  rw [Nat.zero_add] at h1
  constructor
  · intro z hn
    have := (fx_at h).2 hn
    omega
  · intro hn
    rcases Nat.lt_trichotomy j i with hlt | rfl | hgt
    · omega
    · exact absurd h3 hn
    · exact absurd (List.mem_map_of_mem (f := (·.f0)) (List.mem_iff_getElem.2 ⟨i, by simp; omega, by rw [List.getElem_take]⟩ : l[i] ∈ l.take j)) h3
theorem refmay_l {l : List S26} {rev : Int} (hl : l.length ≤ 100000) : ∀ (d i : Nat), l.length - i = d → i ≤ l.length → (∀ j (h : j < l.length), j < i → oneL l[j] = true ∧ l[j].f0 ∉ (l.take j).map (·.f0)) → Ev (fun k => drydockref16_May.l0 k (i : Int) rev l) (mayH rev l) := by
  intro d
  induction d with
  | zero =>
    intro i hd hi hb
    have hn : (l.map (·.f0)).Nodup := nodup_at.2 fun j h => (hb j h (by omega)).2
    have ha : l.all oneL = true := by
      rw [List.all_eq_true]
      intro x hx
      obtain ⟨j, hj, rfl⟩ := List.getElem_of_mem hx
      exact (hb j hj (by omega)).1
    refine Ev.step (f := fun _ => _) (fun k => by simp only [drydockref16_May.l0]; rw [if_neg (by omega)]) ?_
    unfold mayH
    rw [decide_eq_true hn, ha]
    simp only [Bool.true_and]
    refine ite_ev (fun h => ?_) (fun h => ev_now (by simp [h]))
    refine ite_ev (fun h' => ev_now ?_) (fun h' => ev_now (by simp [h']))
    simp only [ge_iff_le] at h
    simp only [h, h', decide_true, Bool.true_and]
    exact decide_eq_decide.2 (by omega)
  | succ d ih =>
    intro i hd hi hb
    have hlt : i < l.length := by omega
    cases h1 : oneL l[i] with
    | false =>
      refine Ev.step (f := fun _ => some false) (fun k => by
        simp only [drydockref16_May.l0]
        rw [if_pos (by omega), if_pos (by omega), rd_T26_nat l i hlt, refone_f]
        show (some (oneL l[i])).bind _ = _
        rw [h1]; rfl) (ev_now ?_)
      have : ¬ l.all oneL = true := fun ha => by
        have := List.all_eq_true.1 ha _ (List.getElem_mem hlt)
        rw [h1] at this; cases this
      simp only [Bool.not_eq_true] at this
      simp [mayH, this]
    | true =>
      refine Ev.step (f := fun k => (drydockref16_find.f k rev l l[i].f0).bind fun t => if t < (i : Int) then some false else drydockref16_May.l0 k ((i + 1 : Nat) : Int) rev l) (fun k => by
        simp only [drydockref16_May.l0]
        rw [if_pos (by omega), if_pos (by omega), rd_T26_nat l i hlt, refone_f, wrap_up (by omega)]
        show (some (oneL l[i])).bind _ = _
        rw [h1]; rfl) ?_
      refine Ev.bind (reffind_ev rev _ hl) ?_
      refine ite_ev (fun h2 => ev_now ?_) (fun h2 => ?_)
      · have : ¬ (l.map (·.f0)).Nodup := fun hn => (fx_lt_at hlt).1 h2 (nodup_at.1 hn i hlt)
        simp [mayH, this]
      · refine ih (i + 1) (by omega) (by omega) fun j hj hji => ?_
        rcases Nat.lt_succ_iff_lt_or_eq.1 hji with h3 | rfl
        · exact hb j hj h3
        · exact ⟨h1, Decidable.of_not_not fun z => h2 ((fx_lt_at hj).2 z)⟩
theorem refmay_ev {l : List S26} (rev : Int) (hl : l.length ≤ 100000) : Ev (fun k => drydockref16_May.f k rev l) (mayH rev l) := by
  unfold drydockref16_May.f
  exact refmay_l (rev := rev) hl l.length 0 (by omega) (by omega) (fun j h h0 => absurd h0 (Nat.not_lt_zero j))
theorem refwhy_ev {l : List S26} (rev : Int) (x : S26) (r : Int) (hl : l.length ≤ 100000) : Ev (fun k => drydockref16_why.f k rev l x.f0 x.f1 r) (mayE rev l x r) := by
  have yes : Ev (fun k => drydockref16_why.j0 k r true rev l) 1 := Ev.step (f := fun _ => some 1) (fun k => by simp only [drydockref16_why.j0, if_true]) (Ev.now _)
  unfold drydockref16_why.f mayE
  refine Ev.bind (refmay_ev rev hl) ?_
  cases hm : mayH rev l with
  | true =>
    simp only [if_true, refone_f, Option.bind_some, true_and]
    cases ho : oneL x with
    | true =>
      simp only [if_true, Bool.not_true]
      have hb := mayH_iff.1 hm
      refine Ev.step (f := fun _ => if r = rev then (if r ≥ 1073741824 then some 2 else some 0) else some 5) (fun k => by simp only [drydockref16_why.j0, Bool.false_eq_true, if_false]) ?_
      refine ite_ev2 (fun h => ?_) (fun _ => Ev.now _)
      by_cases h2 : r = 1073741824
      · simp only [if_pos (show r ≥ 1073741824 by omega)]; rw [if_pos h2]; exact Ev.now _
      · simp only [if_neg (show ¬ r ≥ 1073741824 by omega)]; rw [if_neg h2]; exact Ev.now _
    | false =>
      simp only [Bool.false_eq_true, if_false, Bool.not_false]
      exact yes
  | false =>
    simp only [Bool.false_eq_true, if_false, false_and]
    exact yes
theorem refat_ev {l : List S26} (rev a : Int) (hl : l.length ≤ 100000) : Ev (fun k => drydockref16_At.f k rev l a) (atS rev l a) := by
  unfold drydockref16_At.f atS
  refine Ev.bind (refmay_ev rev hl) ?_
  refine Ev.bind (reffind_ev rev a hl) ?_
  by_cases hm : mayH rev l = true
  · simp only [if_pos hm]
    by_cases h : fx l a 0 < 0
    · simp only [if_pos h]; rw [if_neg (by omega)]; exact Ev.now _
    · simp only [if_neg h]; rw [if_pos ⟨hm, by omega⟩]; exact Ev.now _
  · simp only [if_neg hm]; rw [if_neg (fun z => hm z.1)]; exact Ev.now _
theorem refdet_l {l : List S26} (rev a r : Int) (hl : l.length ≤ 4) : ∀ (d i : Nat) (acc : List S26), l.length - i = d → i ≤ l.length → acc ++ no a (l.drop i) = no a l → Ev (fun k => drydockref16_Detach.l0 k a (i : Int) rev l r acc) (r, no a l, 0) := by
  intro d
  induction d with
  | zero =>
    intro i acc hd hi ha
    rw [List.drop_eq_nil_of_le (by omega)] at ha
    refine Ev.step (f := fun _ => some (r, acc, 0)) (fun k => by simp only [drydockref16_Detach.l0]; rw [if_neg (by omega)]) (ev_now ?_)
    rw [← ha]; simp [no]
  | succ d ih =>
    intro i acc hd hi ha
    have hlt : i < l.length := by omega
    have hal : acc.length ≤ l.length := by
      have h1 := congrArg List.length ha
      have h2 : (no a l).length ≤ l.length := List.length_filter_le ..
      simp only [List.length_append] at h1
      omega
    have hs := no_step (a := a) hlt
    by_cases hb : l[i].f0 = a
    · rw [if_pos hb] at hs
      refine Ev.step (f := fun k => drydockref16_Detach.l0 k a ((i + 1 : Nat) : Int) rev l r acc) (fun k => ?_) (ih (i + 1) acc (by omega) (by omega) (by rw [← ha, hs]; rfl))
      simp only [drydockref16_Detach.l0]
      rw [if_pos (by omega), if_pos (by omega), rd_T26_nat l i hlt, if_pos hb, wrap_up (by omega)]
    · rw [if_neg hb] at hs
      refine Ev.step (f := fun k => drydockref16_Detach.l0 k a ((i + 1 : Nat) : Int) rev l r (acc ++ [l[i]])) (fun k => ?_) (ih (i + 1) (acc ++ [l[i]]) (by omega) (by omega) (by rw [← ha, hs, List.append_assoc]))
      simp only [drydockref16_Detach.l0]
      rw [if_pos (by omega), if_pos (by omega), rd_T26_nat l i hlt, if_neg hb, if_pos (by omega), wrap_up (by omega)]
theorem refdet_ev {l : List S26} (rev a r : Int) (hl : l.length ≤ 100000) : Ev (fun k => drydockref16_Detach.f k rev l a r) (detS rev l a r) := by
  unfold drydockref16_Detach.f detS
  refine Ev.bind (refwhy_ev rev ⟨1, 0⟩ r hl) ?_
  by_cases hm : mayE rev l ⟨1, 0⟩ r = 0
  · obtain ⟨hm1, _, hm3, hm4⟩ := mayE_zero.1 hm
    obtain ⟨hn, _, h0, h1, h4⟩ := mayH_iff.1 hm1
    simp only [if_pos hm]
    refine Ev.bind (reffind_ev rev a hl) ?_
    by_cases h : fx l a 0 < 0
    · simp only [if_pos h]; exact Ev.now _
    · simp only [if_neg h]
      obtain ⟨j, hj, ej, hj1, _⟩ := fx_idx (by omega : 0 ≤ fx l a 0)
      rw [wrap_s (by omega) (by omega), ej, Int.toNat_natCast, ← no_erase hn hj, hj1]
      exact refdet_l rev a (r + 1) h4 l.length 0 [] (by omega) (by omega) (by simp)
  · simp only [if_neg hm]; exact Ev.now _
/-- What the loop of the document's Attach lays. -/
def outF (p b : Int) (x : S26) (l : List S26) : List S26 := l.flatMap fun y => if y.f0 = b then (if p = 2 then [x, y] else if p = 3 then [y, x] else [y]) else [y]
theorem outF_no {p b : Int} {x : S26} {l : List S26} (h : b ∉ l.map (·.f0)) : outF p b x l = l := by
  induction l with
  | nil => rfl
  | cons y t ih =>
    simp only [List.map_cons, List.mem_cons, not_or] at h
    unfold outF at ih ⊢
    rw [List.flatMap_cons, if_neg (fun z => h.1 z.symm), ih h.2]; rfl
theorem outF_other {p b : Int} {x : S26} (l : List S26) (h2 : p ≠ 2) (h3 : p ≠ 3) : outF p b x l = l := by
  induction l with
  | nil => rfl
  | cons y t ih =>
    unfold outF at ih ⊢
    rw [List.flatMap_cons, ih, if_neg h2, if_neg h3]; simp
theorem outF_at {p b : Int} {x : S26} {l : List S26} {j : Nat} (hn : (l.map (·.f0)).Nodup) (hj : j < l.length) (hb : l[j].f0 = b) : outF p b x l = l.take j ++ (if p = 2 then [x, l[j]] else if p = 3 then [l[j], x] else [l[j]]) ++ l.drop (j + 1) := by
  have e : l = l.take j ++ l[j] :: l.drop (j + 1) := by rw [List.getElem_cons_drop, List.take_append_drop]
  have h1 : b ∉ (l.take j).map (·.f0) := by rw [← hb]; exact nodup_at.1 hn j hj
  have h2 : b ∉ (l.drop (j + 1)).map (·.f0) := by
    intro hm
    obtain ⟨m, hm1, hm2⟩ := List.getElem_of_mem hm
    simp only [List.length_map, List.length_drop] at hm1
    rw [List.getElem_map, List.getElem_drop, ← hb] at hm2
    have := nodup_inj.1 hn _ j (by omega) hj hm2
    omega
  have hf : ∀ a c : List S26, outF p b x (a ++ c) = outF p b x a ++ outF p b x c := fun a c => by unfold outF; rw [List.flatMap_append]
  generalize ht : l.take j = t at *
  generalize hd : l.drop (j + 1) = d at *
  generalize hx : l[j] = y at *
  rw [e, hf, outF_no h1, List.append_assoc]
  congr 1
  have := outF_no (p := p) (x := x) h2
  unfold outF at this ⊢
  rw [List.flatMap_cons, this, if_pos hb]

end Go.Proofs.Ytoehingbhmaidaa.Spec
