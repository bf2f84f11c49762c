/- LinkOrder -/
import Derived.Test.YtoehingbhmaidaaPx24 -- the law
import Derived.Test.YtoehingbhmaidaaSpecE
namespace Go.Proofs.Ytoehingbhmaidaa.Pure
open Go.Proofs.Ytoehingbhmaidaa.Spec Go.RowKit Go.Proofs.Ytoehingbhmaidaa.P Go.Proofs.YtoehingbhmaidaaW.PrintWords Go.Proofs.YtoehingbhmaidaaW.PrintLast

theorem loop1 (b e f : Int) (acc : List S26) (rev : Int) (l : List S26) (r2 : Int) (dl : List S26) (r : Bool) (hl : l.length ≤ 100000)
    (h : Ev (fun k => if e = 0 then ((drydockref16_Same.f k 0 acc 0 l).bind fun t406 => (if t406 = true then (if f = 0 then ((drydockref16_Same.f k 0 ([] ++ no b (l.drop 0)) 0 dl).bind fun t407 => (if t407 = true then (some ((dl.length : Int) == (wrap64 ((l.length : Int) - 1)))) else (none))) else (some true)) else (none))) else (if f = 0 then ((drydockref16_Same.f k 0 ([] ++ no b (l.drop 0)) 0 dl).bind fun t408 => (if t408 = true then (some ((dl.length : Int) == (wrap64 ((l.length : Int) - 1)))) else (none))) else (some true))) r) :
    ∀ (d i : Nat) (a : List S26), l.length - i = d → i ≤ l.length → a ++ no b (l.drop i) = [] ++ no b (l.drop 0) → Ev (fun k => drydocklaw16_LinkOrder.l1 k b e f acc a (i : Int) rev l r2 dl) r := by
  intro d
  induction d with
  | zero =>
    intro i a hd hi ha
    have : l.drop i = [] := List.drop_eq_nil_of_le (by omega)
    rw [this] at ha
    have ha' : a = [] ++ no b (l.drop 0) := by rw [← ha]; simp [no]
    rw [← ha'] at h
    exact Ev.step (f := fun k => _) (fun k => by simp only [drydocklaw16_LinkOrder.l1]; rw [if_neg (by omega)]) h
  | succ d ih =>
    intro i a hd hi ha
    have hlt : i < l.length := by omega
    have hal : a.length ≤ l.length := by
      have h1 := congrArg List.length ha
      have h2 : (no b (l.drop 0)).length ≤ (l.drop 0).length := List.length_filter_le ..
      simp only [List.length_append, List.nil_append, List.drop_zero] at h1 h2
      omega
    have hs := no_step (a := b) hlt
    by_cases hb : l[i].f0 = b
    · rw [if_pos hb] at hs
      refine Ev.step (f := fun k => drydocklaw16_LinkOrder.l1 k b e f acc a ((i + 1 : Nat) : Int) rev l r2 dl) (fun k => ?_) (ih (i + 1) a (by omega) (by omega) (by rw [← ha, hs]; rfl))
      simp only [drydocklaw16_LinkOrder.l1]
      rw [if_pos (by omega), if_pos (by omega), rd_T26_nat l i hlt, if_pos hb, wrap_up (by omega)]
    · rw [if_neg hb] at hs
      refine Ev.step (f := fun k => drydocklaw16_LinkOrder.l1 k b e f acc (a ++ [l[i]]) ((i + 1 : Nat) : Int) rev l r2 dl) (fun k => ?_) (ih (i + 1) (a ++ [l[i]]) (by omega) (by omega) (by rw [← ha, hs, List.append_assoc]))
      simp only [drydocklaw16_LinkOrder.l1]
      rw [if_pos (by omega), if_pos (by omega), rd_T26_nat l i hlt, if_neg hb, if_pos (by omega), wrap_up (by omega)]
theorem loop0 (b e f : Int) (rev : Int) (l : List S26) (x0 x1 : Int) (r1 : Int) (al : List S26) (r2 : Int) (dl : List S26) (r : Bool) (hl : al.length ≤ 100000)
    (h : Ev (fun k => drydocklaw16_LinkOrder.l1 k b e f ([] ++ no x0 (al.drop 0)) [] 0 rev l r2 dl) r) :
    ∀ (d i : Nat) (a : List S26), al.length - i = d → i ≤ al.length → a ++ no x0 (al.drop i) = [] ++ no x0 (al.drop 0) → Ev (fun k => drydocklaw16_LinkOrder.l0 k b e f a (i : Int) rev l x0 x1 r1 al r2 dl) r := by
  intro d
  induction d with
  | zero =>
    intro i a hd hi ha
    have : al.drop i = [] := List.drop_eq_nil_of_le (by omega)
    rw [this] at ha
    have ha' : a = [] ++ no x0 (al.drop 0) := by rw [← ha]; simp [no]
    rw [← ha'] at h
    exact Ev.step (f := fun k => _) (fun k => by simp only [drydocklaw16_LinkOrder.l0]; rw [if_neg (by omega)]) h
  | succ d ih =>
    intro i a hd hi ha
    have hlt : i < al.length := by omega
    have hal : a.length ≤ al.length := by
      have h1 := congrArg List.length ha
      have h2 : (no x0 (al.drop 0)).length ≤ (al.drop 0).length := List.length_filter_le ..
      simp only [List.length_append, List.nil_append, List.drop_zero] at h1 h2
      omega
    have hs := no_step (a := x0) hlt
    by_cases hb : al[i].f0 = x0
    · rw [if_pos hb] at hs
      refine Ev.step (f := fun k => drydocklaw16_LinkOrder.l0 k b e f a ((i + 1 : Nat) : Int) rev l x0 x1 r1 al r2 dl) (fun k => ?_) (ih (i + 1) a (by omega) (by omega) (by rw [← ha, hs]; rfl))
      simp only [drydocklaw16_LinkOrder.l0]
      rw [if_pos (by omega), if_pos (by omega), rd_T26_nat al i hlt, if_pos hb, wrap_up (by omega)]
    · rw [if_neg hb] at hs
      refine Ev.step (f := fun k => drydocklaw16_LinkOrder.l0 k b e f (a ++ [al[i]]) ((i + 1 : Nat) : Int) rev l x0 x1 r1 al r2 dl) (fun k => ?_) (ih (i + 1) (a ++ [al[i]]) (by omega) (by omega) (by rw [← ha, hs, List.append_assoc]))
      simp only [drydocklaw16_LinkOrder.l0]
      rw [if_pos (by omega), if_pos (by omega), rd_T26_nat al i hlt, if_neg hb, if_pos (by omega), wrap_up (by omega)]
theorem LinkOrder : ∀ (a0_0 : Int) (l0_1 : List (S26)) (a1_0 : Int) (a1_1 : Int) (a2 : Int) (a3 : Int), (((Lit.int .i64 a0_0).wf = true) ∧ (l0_1.length ≤ 9223372036854775807 ∧ ∀ x_ ∈ l0_1, (((Lit.int .i64 x_.f0).wf = true) ∧ ((Lit.int .i64 x_.f1).wf = true)))) → (((Lit.int .i64 a1_0).wf = true) ∧ ((Lit.int .i64 a1_1).wf = true)) → ((Lit.int .i64 a2).wf = true) → ((Lit.int .i64 a3).wf = true) → ∃ k, drydocklaw16_LinkOrder.f k a0_0 l0_1 a1_0 a1_1 a2 a3 = some true := by
  intro rev l x0 x1 p b ⟨_, hl, _⟩ _ _ _
  suffices h : Ev (fun k => drydocklaw16_LinkOrder.f k rev l x0 x1 p b) true from h.rounds
  unfold drydocklaw16_LinkOrder.f
  refine Ev.bind awake_ev ?_
  simp only [if_true]
  refine Ev.bind (may_ev rev hl) ?_
  cases hm : mayH rev l with
  | false =>
    exact Ev.step (f := fun _ => some true) (fun k => by simp only [drydocklaw16_LinkOrder.j0, Bool.not_false, if_true]) (Ev.now _)
  | true =>
    obtain ⟨hn, _, h0, h1, hl4⟩ := mayH_iff.1 hm
    refine Ev.step (f := fun k => (link_Attach.f k rev l x0 x1 p b rev).bind fun bt384 => _) (fun k => by simp only [drydocklaw16_LinkOrder.j0, Bool.not_true, Bool.false_eq_true, if_false]; rfl) ?_
    refine Ev.bind (att_ev rev ⟨x0, x1⟩ p b rev hl) ?_
    rw [det_f rev b rev (by omega)]
    simp only [Option.bind_some]
    have hA : (attS rev l ⟨x0, x1⟩ p b rev).2.1.length ≤ 100 ∧ ((attS rev l ⟨x0, x1⟩ p b rev).2.2 = 0 → no x0 (attS rev l ⟨x0, x1⟩ p b rev).2.1 = l) := by
      rcases att_inv rev l ⟨x0, x1⟩ p b rev with ⟨e, he, hA⟩ | ⟨hm, hp0, hp4, hx, hb, hl4, hA⟩
      · rw [hA]; exact ⟨by simp, fun z => absurd z he⟩
      · rw [hA]
        have := ins_len l (pos p l b) ⟨x0, x1⟩ (pos_le hb hp0)
        exact ⟨by simp only; omega, fun _ => no_ins hx⟩
    have hD : (detS rev l b rev).2.2 = 0 → no b l = (detS rev l b rev).2.1 ∧ ((detS rev l b rev).2.1.length : Int) = (l.length : Int) - 1 := by
      intro z
      unfold detS at z ⊢
      by_cases hE : mayE rev l ⟨1, 0⟩ rev = 0
      · rw [if_pos hE] at z ⊢
        by_cases hf : fx l b 0 < 0
        · rw [if_pos hf] at z; exact absurd z (by decide)
        · rw [if_neg hf]
          obtain ⟨j, hj, ej, hj1, hj2⟩ := fx_idx (by omega : 0 ≤ fx l b 0)
          rw [ej, Int.toNat_natCast, ← hj1]
          refine ⟨no_erase hn hj, ?_⟩
          have := List.length_eraseIdx_of_lt hj
          simp only; omega
      · rw [if_neg hE] at z; exact absurd z hE
    generalize attS rev l ⟨x0, x1⟩ p b rev = A at hA ⊢
    generalize detS rev l b rev = D at hD ⊢
    refine loop0 b A.2.2 D.2.2 rev l x0 x1 A.1 A.2.1 D.1 D.2.1 true (by omega) ?_ A.2.1.length 0 [] (by omega) (by omega) (by simp)
    refine loop1 b A.2.2 D.2.2 _ rev l D.1 D.2.1 true (by omega) ?_ l.length 0 [] (by omega) (by omega) (by simp)
    simp only [List.nil_append, List.drop_zero]
    have F : Ev (fun k => if D.2.2 = 0 then ((drydockref16_Same.f k 0 (no b l) 0 D.2.1).bind fun t407 => (if t407 = true then (some ((D.2.1.length : Int) == (wrap64 ((l.length : Int) - 1)))) else (none))) else (some true)) true := by
      refine ite_ev (fun hd => ?_) (fun _ => Ev.now _)
      obtain ⟨d1, d2⟩ := hD hd
      rw [d1]
      refine Ev.bind (same_ev 0 (by omega)) ?_
      simp only [if_true]
      refine ev_now ?_
      rw [d2, wrap_s (by omega) (by omega)]; simp
    refine ite_ev (fun ha => ?_) (fun _ => F)
    rw [hA.2 ha]
    refine Ev.bind (same_ev 0 (by omega)) ?_
    exact F

end Go.Proofs.Ytoehingbhmaidaa.Pure
