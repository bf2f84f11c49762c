/- What the document's Attach and Swap come to. -/
import Derived.Test.YtoehingbhmaidaaPx17
import Derived.Test.YtoehingbhmaidaaSpecF
namespace Go.Proofs.Ytoehingbhmaidaa.Spec
open Go.RowKit Go.Proofs.Ytoehingbhmaidaa.P Go.Proofs.YtoehingbhmaidaaW.PrintWords Go.Proofs.YtoehingbhmaidaaW.PrintLast

theorem outF_step {p b : Int} {x : S26} {l : List S26} {i : Nat} (h : i < l.length) : outF p b x (l.drop i) = (if l[i].f0 = b then (if p = 2 then [x, l[i]] else if p = 3 then [l[i], x] else [l[i]]) else [l[i]]) ++ outF p b x (l.drop (i + 1)) := by
  rw [← List.getElem_cons_drop h]
  unfold outF
  rw [List.flatMap_cons]
theorem refatt_l {l T : List S26} (rev p b : Int) (x : S26) (r : Int) (hl : l.length ≤ 4) (hT : T.length ≤ 1000) : ∀ (d i : Nat) (acc : List S26), l.length - i = d → i ≤ l.length → acc ++ outF p b x (l.drop i) = T →
    Ev (fun k => drydockref16_Attach.l0 k p b (i : Int) rev l x.f0 x.f1 r acc) (r, T ++ (if p = 1 then [x] else []), 0) := by
  intro d
  induction d with
  | zero =>
    intro i acc hd hi ha
    rw [List.drop_eq_nil_of_le (by omega)] at ha
    have ha' : acc = T := by rw [← ha]; simp [outF]
    subst ha'
    refine Ev.step (f := fun _ => if p = 1 then some (r, acc ++ [x], 0) else some (r, acc, 0)) (fun k => by
      simp only [drydockref16_Attach.l0]
      rw [if_neg (by omega), if_pos (show acc.length < 8796093022208 by omega)]) ?_
    by_cases h : p = 1
    · simp only [if_pos h]; exact Ev.now _
    · simp only [if_neg h]; exact ev_now (by simp)
  | succ d ih =>
    intro i acc hd hi ha
    have hlt : i < l.length := by omega
    have hs := outF_step (p := p) (b := b) (x := x) hlt
    have hal : acc.length ≤ 1000 := by
      have h1 := congrArg List.length ha
      simp only [List.length_append] at h1
      omega
    have nx := fun (add : List S26) (he : outF p b x (l.drop i) = add ++ outF p b x (l.drop (i + 1))) => ih (i + 1) (acc ++ add) (by omega) (by omega) (by rw [← ha, he, List.append_assoc])
    by_cases hb : l[i].f0 = b
    · rw [if_pos hb] at hs
      by_cases p2 : p = 2
      · rw [if_pos p2] at hs
        refine Ev.step (f := fun k => drydockref16_Attach.l0 k p b ((i + 1 : Nat) : Int) rev l x.f0 x.f1 r (acc ++ [x, l[i]])) (fun k => ?_) (nx _ hs)
        have p3 : ¬ p = 3 := by omega
        simp only [drydockref16_Attach.l0]
        rw [if_pos (by omega), if_pos (by omega), rd_T26_nat l i hlt, if_pos hb, if_pos p2, if_pos (by omega), Option.bind_some, if_pos (by simp; omega), Option.bind_some, if_neg p3, wrap_up (by omega), List.append_assoc]
        rfl
      · rw [if_neg p2] at hs
        by_cases p3 : p = 3
        · rw [if_pos p3] at hs
          refine Ev.step (f := fun k => drydockref16_Attach.l0 k p b ((i + 1 : Nat) : Int) rev l x.f0 x.f1 r (acc ++ [l[i], x])) (fun k => ?_) (nx _ hs)
          simp only [drydockref16_Attach.l0]
          rw [if_pos (by omega), if_pos (by omega), rd_T26_nat l i hlt, if_pos hb, if_neg p2, if_pos (by omega), Option.bind_some, if_pos p3, if_pos (by simp; omega), wrap_up (by omega), List.append_assoc]
          rfl
        · rw [if_neg p3] at hs
          refine Ev.step (f := fun k => drydockref16_Attach.l0 k p b ((i + 1 : Nat) : Int) rev l x.f0 x.f1 r (acc ++ [l[i]])) (fun k => ?_) (nx _ hs)
          simp only [drydockref16_Attach.l0]
          rw [if_pos (by omega), if_pos (by omega), rd_T26_nat l i hlt, if_pos hb, if_neg p2, if_pos (by omega), Option.bind_some, if_neg p3, wrap_up (by omega)]
    · rw [if_neg hb] at hs
      refine Ev.step (f := fun k => drydockref16_Attach.l0 k p b ((i + 1 : Nat) : Int) rev l x.f0 x.f1 r (acc ++ [l[i]])) (fun k => ?_) (nx _ hs)
      simp only [drydockref16_Attach.l0]
      rw [if_pos (by omega), if_pos (by omega), rd_T26_nat l i hlt, if_neg hb, if_pos (by omega), wrap_up (by omega)]
theorem refatt_done {l : List S26} (b : Int) (x : S26) {p : Int} (hn : (l.map (·.f0)).Nodup) (h0 : 0 ≤ p) (h3 : p ≤ 3) (hb : p ≥ 2 → 0 ≤ fx l b 0) :
    (if p = 0 then [x] else []) ++ outF p b x l ++ (if p = 1 then [x] else []) = ins l (pos p l b) x := by
  unfold ins pos
  by_cases p0 : p = 0
  · rw [if_pos p0, if_pos p0, if_neg (by omega), outF_other l (by omega) (by omega)]; simp
  · rw [if_neg p0, if_neg p0]
    by_cases p1 : p = 1
    · rw [if_pos p1, if_pos p1, outF_other l (by omega) (by omega)]; simp
    · rw [if_neg p1, if_neg p1]
      obtain ⟨j, hj, ej, hj1, hj2⟩ := fx_idx (hb (by omega))
      rw [outF_at hn hj hj1, ej, Int.toNat_natCast]
      by_cases p2 : p = 2
      · rw [if_pos p2, if_pos p2, ← List.getElem_cons_drop hj]; simp
      · have p3 : p = 3 := by omega
        have ht : l.take (j + 1) = l.take j ++ [l[j]] := (List.take_append_getElem hj).symm
        simp only [if_neg p2, if_pos p3, ht, List.nil_append, List.append_nil, List.append_assoc, List.cons_append]
theorem refatt_ev {l : List S26} (rev : Int) (x : S26) (p b r : Int) (hl : l.length ≤ 100000) : Ev (fun k => drydockref16_Attach.f k rev l x.f0 x.f1 p b r) (attS rev l x p b r) := by
  unfold drydockref16_Attach.f
  refine Ev.bind (refwhy_ev rev x r hl) ?_
  by_cases hm : mayE rev l x r = 0
  · obtain ⟨hm1, _, hm3, hm4⟩ := mayE_zero.1 hm
    obtain ⟨hn, _, q0, q1, q4⟩ := mayH_iff.1 hm1
    simp only [if_pos hm]
    have one : Ev (fun k => drydockref16_Attach.j0 k p b r true rev l x.f0 x.f1) (0, [], 1) := Ev.step (f := fun _ => some (0, ([] : List S26), 1)) (fun k => by simp only [drydockref16_Attach.j0, if_true]) (Ev.now _)
    have go : ¬ (p < 0 ∨ p ≥ 4 ∨ fx l x.f0 0 ≥ 0) → Ev (fun k => drydockref16_Attach.j0 k p b r false rev l x.f0 x.f1) (attS rev l x p b r) := fun h1 => by
      have c1 : ¬ (p ≥ 2 ∧ fx l b 0 < 0) → Ev (fun k => drydockref16_Attach.j1 k p b r false rev l x.f0 x.f1) (attS rev l x p b r) := fun h2 => by
        unfold attS
        rw [if_pos hm, if_neg h1, if_neg h2]
        by_cases h3 : (l.length : Int) = 4
        · rw [if_pos h3]
          exact Ev.step (f := fun _ => some (0, ([] : List S26), 4)) (fun k => by simp only [drydockref16_Attach.j1, Bool.false_eq_true, if_false, if_pos (show (l.length : Int) ≥ 4 by omega)]) (Ev.now _)
        · rw [if_neg h3]
          have hd := refatt_done b x (p := p) hn (by omega) (by omega) (fun z => by omega)
          have hol : (outF p b x l).length ≤ 100 := by
            have h5 := congrArg List.length hd
            rw [ins_len l _ x (pos_le (fun z => by omega) (by omega)), List.length_append, List.length_append] at h5
            omega
          rw [← hd]
          refine Ev.step (f := fun k => drydockref16_Attach.j2 k p b rev l x.f0 x.f1 (r + 1) (if p = 0 then [x] else [])) (fun k => ?_) ?_
          · simp only [drydockref16_Attach.j1, Bool.false_eq_true, if_false, if_neg (show ¬ (l.length : Int) ≥ 4 by omega)]
            rw [wrap_s (by omega) (by omega)]
            by_cases p0 : p = 0
            · rw [if_pos p0, if_pos p0, if_pos (by simp)]; rfl
            · rw [if_neg p0, if_neg p0]
          · refine Ev.step (f := fun k => drydockref16_Attach.l0 k p b 0 rev l x.f0 x.f1 (r + 1) (if p = 0 then [x] else [])) (fun k => by simp only [drydockref16_Attach.j2]) ?_
            exact refatt_l rev p b x (r + 1) q4 (by rw [List.length_append]; split <;> simp <;> omega) l.length 0 _ (by omega) (by omega) (by rw [List.drop_zero])
      by_cases p2 : p ≥ 2
      · refine Ev.step (f := fun k => (drydockref16_find.f k rev l b).bind fun t171 => drydockref16_Attach.j1 k p b r (decide (t171 < 0)) rev l x.f0 x.f1) (fun k => by simp only [drydockref16_Attach.j0, Bool.false_eq_true, if_false, if_pos p2]) ?_
        refine Ev.bind (reffind_ev rev b hl) ?_
        by_cases hb : fx l b 0 < 0
        · rw [decide_eq_true hb]
          refine Ev.step (f := fun _ => some (0, ([] : List S26), 3)) (fun k => by simp only [drydockref16_Attach.j1, if_true]) (ev_now ?_)
          unfold attS; rw [if_pos hm, if_neg h1, if_pos ⟨p2, hb⟩]
        · rw [decide_eq_false hb]; exact c1 (fun z => hb z.2)
      · refine Ev.step (f := fun k => drydockref16_Attach.j1 k p b r false rev l x.f0 x.f1) (fun k => by simp only [drydockref16_Attach.j0, Bool.false_eq_true, if_false, if_neg p2]) ?_
        exact c1 (fun z => p2 z.1)
    have bad : p < 0 ∨ p ≥ 4 ∨ fx l x.f0 0 ≥ 0 → attS rev l x p b r = (0, [], 1) := fun h => by unfold attS; rw [if_pos hm, if_pos h]
    by_cases a1 : p < 0
    · simp only [if_pos a1]; rw [bad (Or.inl a1)]; exact one
    · simp only [if_neg a1]
      by_cases a2 : p > 3
      · simp only [if_pos a2]; rw [bad (Or.inr (Or.inl (by omega)))]; exact one
      · simp only [if_neg a2]
        refine Ev.bind (reffind_ev rev x.f0 hl) ?_
        by_cases a3 : fx l x.f0 0 ≥ 0
        · rw [decide_eq_true a3, bad (Or.inr (Or.inr a3))]; exact one
        · rw [decide_eq_false a3]; exact go (by omega)
  · simp only [if_neg hm]
    unfold attS
    rw [if_neg hm]; exact Ev.now _
/-- One in another one's place. -/
def repF (a : Int) (x : S26) (l : List S26) : List S26 := l.map fun y => if y.f0 = a then x else y
theorem repF_set {l : List S26} {j : Nat} (x : S26) (hn : (l.map (·.f0)).Nodup) (hj : j < l.length) : repF l[j].f0 x l = l.set j x := by
  unfold repF
  apply List.ext_getElem
  · simp
  · intro i h1 h2
    rw [List.length_map] at h1
    rw [List.getElem_map, List.getElem_set]
    by_cases h : j = i
    · subst h; rw [if_pos rfl, if_pos rfl]
    · rw [if_neg h, if_neg (fun z => h (nodup_inj.1 hn i j h1 hj z).symm)]
theorem refsw_l {l : List S26} (rev a : Int) (x : S26) (r : Int) (hl : l.length ≤ 4) : ∀ (d i : Nat) (acc : List S26), l.length - i = d → i ≤ l.length → acc ++ repF a x (l.drop i) = repF a x l → Ev (fun k => drydockref16_Swap.l0 k a (i : Int) rev l x.f0 x.f1 r acc) (r, repF a x l, 0) := by
  intro d
  induction d with
  | zero =>
    intro i acc hd hi ha
    rw [List.drop_eq_nil_of_le (by omega)] at ha
    refine Ev.step (f := fun _ => some (r, acc, 0)) (fun k => by simp only [drydockref16_Swap.l0]; rw [if_neg (by omega)]) (ev_now ?_)
    rw [← ha]; simp [repF]
  | succ d ih =>
    intro i acc hd hi ha
    have hlt : i < l.length := by omega
    have hal : acc.length ≤ l.length := by
      have h1 := congrArg List.length ha
      simp only [List.length_append, repF, List.length_map] at h1
      omega
    have hs : repF a x (l.drop i) = [if l[i].f0 = a then x else l[i]] ++ repF a x (l.drop (i + 1)) := by
      rw [← List.getElem_cons_drop hlt]; rfl
    have nx := ih (i + 1) (acc ++ [if l[i].f0 = a then x else l[i]]) (by omega) (by omega) (by rw [← ha, hs, List.append_assoc])
    by_cases hb : l[i].f0 = a
    · rw [if_pos hb] at nx
      refine Ev.step (f := fun k => drydockref16_Swap.l0 k a ((i + 1 : Nat) : Int) rev l x.f0 x.f1 r (acc ++ [x])) (fun k => ?_) nx
      simp only [drydockref16_Swap.l0]
      rw [if_pos (by omega), if_pos (by omega), rd_T26_nat l i hlt, if_pos hb, if_pos (by omega), wrap_up (by omega)]
    · rw [if_neg hb] at nx
      refine Ev.step (f := fun k => drydockref16_Swap.l0 k a ((i + 1 : Nat) : Int) rev l x.f0 x.f1 r (acc ++ [l[i]])) (fun k => ?_) nx
      simp only [drydockref16_Swap.l0]
      rw [if_pos (by omega), if_pos (by omega), rd_T26_nat l i hlt, if_neg hb, if_pos (by omega), wrap_up (by omega)]
theorem refsw_ev {l : List S26} (rev a : Int) (x : S26) (r : Int) (hl : l.length ≤ 100000) : Ev (fun k => drydockref16_Swap.f k rev l a x.f0 x.f1 r) (swS rev l a x r) := by
  unfold drydockref16_Swap.f swS
  refine Ev.bind (refwhy_ev rev x r hl) ?_
  by_cases hm : mayE rev l x r = 0
  · obtain ⟨hm1, _, hm3, hm4⟩ := mayE_zero.1 hm
    obtain ⟨hn, _, q0, q1, q4⟩ := mayH_iff.1 hm1
    simp only [if_pos hm]
    refine Ev.bind (reffind_ev rev a hl) ?_
    by_cases h : fx l a 0 < 0
    · simp only [if_pos h]; exact Ev.now _
    · simp only [if_neg h]
      obtain ⟨j, hj, ej, hj1, hj2⟩ := fx_idx (by omega : 0 ≤ fx l a 0)
      have yes : Ev (fun k => drydockref16_Swap.j0 k a r true rev l x.f0 x.f1) (0, [], 1) := Ev.step (f := fun _ => some (0, ([] : List S26), 1)) (fun k => by simp only [drydockref16_Swap.j0, if_true]) (Ev.now _)
      have go : Ev (fun k => drydockref16_Swap.j0 k a r false rev l x.f0 x.f1) (r + 1, l.set (fx l a 0).toNat x, 0) := by
        rw [ej, Int.toNat_natCast, ← repF_set x hn hj, hj1]
        refine Ev.step (f := fun k => drydockref16_Swap.l0 k a 0 rev l x.f0 x.f1 (r + 1) []) (fun k => by simp only [drydockref16_Swap.j0, Bool.false_eq_true, if_false]; rw [wrap_s (by omega) (by omega)]) ?_
        exact refsw_l rev a x (r + 1) q4 l.length 0 [] (by omega) (by omega) (by simp)
      by_cases hx : x.f0 = a
      · simp only [if_pos hx]
        rw [if_neg (fun z => z.2 (by rw [hx]))]
        exact go
      · simp only [if_neg hx]
        refine Ev.bind (reffind_ev rev x.f0 hl) ?_
        by_cases h2 : fx l x.f0 0 ≥ 0
        · have hne : fx l x.f0 0 ≠ fx l a 0 := fun z => by
            obtain ⟨m, hm', em, e1, _⟩ := fx_idx h2
            have : m = j := by omega
            subst this
            exact hx (by rw [← e1, hj1])
          rw [decide_eq_true h2, if_pos ⟨h2, hne⟩]; exact yes
        · rw [decide_eq_false h2, if_neg (fun z => h2 z.1)]; exact go
  · simp only [if_neg hm]; exact Ev.now _

end Go.Proofs.Ytoehingbhmaidaa.Spec
