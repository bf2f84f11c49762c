/- LinkFull -/
import Derived.Test.YtoehingbhmaidaaPx25 -- the law
import Derived.Test.YtoehingbhmaidaaSpecB
namespace Go.Proofs.Ytoehingbhmaidaa.Pure
open Go.Proofs.Ytoehingbhmaidaa.Spec Go.RowKit Go.Proofs.Ytoehingbhmaidaa.P Go.Proofs.YtoehingbhmaidaaW.PrintWords Go.Proofs.YtoehingbhmaidaaW.PrintLast

theorem att_last {rev v : Int} {l : List S26} (hm : mayH rev l = true) (hl : l.length ≤ 3) (hr : rev < 1073741824) (hv : 1 ≤ v) (hn : v ∉ l.map (·.f0)) : attS rev l ⟨v, 0⟩ 1 0 rev = (rev + 1, l ++ [⟨v, 0⟩], 0) := by
  have ho : oneL ⟨v, 0⟩ = true := by simp [oneL]; omega
  have he : mayE rev l ⟨v, 0⟩ rev = 0 := by unfold mayE; rw [if_pos ⟨hm, ho⟩, if_pos rfl, if_neg (by omega)]
  have hf : fx l v 0 = -1 := fx_neg hn
  unfold attS
  rw [if_pos he, if_neg (by show ¬ ((1 : Int) < 0 ∨ (1 : Int) ≥ 4 ∨ fx l v 0 ≥ 0); rw [hf]; omega), if_neg (by omega), if_neg (by omega)]
  simp [pos, ins]
theorem att_five {rev v : Int} {l : List S26} (hm : mayH rev l = true) (hl : l.length = 4) (hr : rev < 1073741824) (hv : 1 ≤ v) (hn : v ∉ l.map (·.f0)) : attS rev l ⟨v, 0⟩ 0 0 rev = (0, [], 4) := by
  have ho : oneL ⟨v, 0⟩ = true := by simp [oneL]; omega
  have he : mayE rev l ⟨v, 0⟩ rev = 0 := by unfold mayE; rw [if_pos ⟨hm, ho⟩, if_pos rfl, if_neg (by omega)]
  have hf : fx l v 0 = -1 := fx_neg hn
  unfold attS
  rw [if_pos he, if_neg (by show ¬ ((0 : Int) < 0 ∨ (0 : Int) ≥ 4 ∨ fx l v 0 ≥ 0); rw [hf]; omega), if_neg (by omega), if_pos (by omega)]
theorem may_app {rev v : Int} {l : List S26} (hm : mayH rev l = true) (hl : l.length ≤ 3) (hr : rev + 1 ≤ 1073741824) (hv : 1 ≤ v) (hn : v ∉ l.map (·.f0)) : mayH (rev + 1) (l ++ [⟨v, 0⟩]) = true := by
  obtain ⟨h1, h2, h3, h4, h5⟩ := mayH_iff.1 hm
  refine mayH_iff.2 ⟨?_, fun x hx => ?_, by omega, hr, by simp; omega⟩
  · rw [List.map_append, List.nodup_append]
    refine ⟨h1, by simp, fun a ha b hb => ?_⟩
    simp only [List.map_cons, List.map_nil, List.mem_singleton] at hb
    rintro rfl
    exact hn (hb ▸ ha)
  · rcases List.mem_append.1 hx with hx | hx
    · exact h2 x hx
    · rw [List.mem_singleton.1 hx]; simp [oneL]; omega
theorem may_tail {rev : Int} {x : S26} {t : List S26} (hm : mayH rev (x :: t) = true) (hr : rev + 1 ≤ 1073741824) : mayH (rev + 1) t = true := by
  obtain ⟨h1, h2, h3, h4, h5⟩ := mayH_iff.1 hm
  rw [List.map_cons, List.nodup_cons] at h1
  exact mayH_iff.2 ⟨h1.2, fun y hy => h2 y (List.mem_cons_of_mem _ hy), by omega, hr, by simp at h5; omega⟩
theorem det_head {rev v : Int} {t : List S26} (hm : mayH rev (⟨v, 0⟩ :: t) = true) (hr : rev < 1073741824) : detS rev (⟨v, 0⟩ :: t) v rev = (rev + 1, t, 0) := by
  have he : mayE rev (⟨v, 0⟩ :: t) ⟨1, 0⟩ rev = 0 := by unfold mayE; rw [if_pos ⟨hm, rfl⟩, if_pos rfl, if_neg (by omega)]
  have hf : fx (⟨v, 0⟩ :: t) v 0 = 0 := by show (if v = v then _ else _) = _; rw [if_pos rfl]; rfl
  unfold detS
  rw [if_pos he, hf, if_neg (by omega)]
  rfl
section
variable {v0 v1 v2 v3 v4 r : Int}
theorem f_outer {x : Int} (h5 : x < 5) (h : Ev (fun k => drydocklaw16_LinkFull.l1 k r true x 0 v0 v1 v2 v3 v4 r) true) : Ev (fun k => drydocklaw16_LinkFull.l0 k r true x v0 v1 v2 v3 v4 r) true :=
  Ev.step (f := fun k => drydocklaw16_LinkFull.l1 k r true x 0 v0 v1 v2 v3 v4 r) (fun k => by simp only [drydocklaw16_LinkFull.l0]; rw [if_pos h5]) h
theorem f_inner {x y z : Int} (h0 : 0 ≤ y) (hyx : y < x) (h5 : x < 5) (hz : z = y + 1) (h : sel5I v0 v1 v2 v3 v4 x ≠ sel5I v0 v1 v2 v3 v4 y → Ev (fun k => drydocklaw16_LinkFull.l1 k r true x z v0 v1 v2 v3 v4 r) true) : Ev (fun k => drydocklaw16_LinkFull.l1 k r true x y v0 v1 v2 v3 v4 r) true := by
  subst hz
  refine Ev.step (f := fun k => if sel5I v0 v1 v2 v3 v4 x = sel5I v0 v1 v2 v3 v4 y then some true else drydocklaw16_LinkFull.l1 k r true x (y + 1) v0 v1 v2 v3 v4 r) (fun k => by
    simp only [drydocklaw16_LinkFull.l1]
    rw [if_pos hyx, if_pos (show 0 ≤ x by omega), if_pos h5, if_pos h0, if_pos (show y < 5 by omega), wrap_s (by omega) (by omega)]) ?_
  exact ite_ev (fun _ => Ev.now _) h
theorem f_end {x z : Int} (h0 : 0 ≤ x) (h5 : x < 5) (hz : z = x + 1) (h : 1 ≤ sel5I v0 v1 v2 v3 v4 x → Ev (fun k => drydocklaw16_LinkFull.l0 k r true z v0 v1 v2 v3 v4 r) true) : Ev (fun k => drydocklaw16_LinkFull.l1 k r true x x v0 v1 v2 v3 v4 r) true := by
  subst hz
  refine Ev.step (f := fun k => if sel5I v0 v1 v2 v3 v4 x < 1 then some true else drydocklaw16_LinkFull.l0 k r true (x + 1) v0 v1 v2 v3 v4 r) (fun k => by
    simp only [drydocklaw16_LinkFull.l1]
    rw [if_neg (show ¬ x < x by omega), if_pos h0, if_pos h5, wrap_s (by omega) (by omega)]) ?_
  exact ite_ev (fun _ => Ev.now _) (fun g => h (by omega))
theorem f_st2 {i z v : Int} {l : List S26} (hl : (l.length : Int) = i) (h4 : i < 4) (hz : z = i + 1) (hv : sel5I v0 v1 v2 v3 v4 i = v) (hr : 0 ≤ r ∧ r ≤ 1000000) (hm : mayH (r + i) l = true) (h1 : 1 ≤ v) (hn : v ∉ l.map (·.f0))
    (h : mayH (r + z) (l ++ [⟨v, 0⟩]) = true → Ev (fun k => drydocklaw16_LinkFull.l2 k r z v0 v1 v2 v3 v4 (r + z) (l ++ [⟨v, 0⟩])) true) : Ev (fun k => drydocklaw16_LinkFull.l2 k r i v0 v1 v2 v3 v4 (r + i) l) true := by
  subst hz
  have hm2 := may_app hm (by omega) (by omega) h1 hn
  have hA := att_ev (r + i) ⟨v, 0⟩ 1 0 (r + i) (l := l) (by omega)
  rw [att_last hm (by omega) (by omega) h1 hn] at hA
  rw [show r + i + 1 = r + (i + 1) by omega] at hA hm2
  have hrd : rd_T26 (l ++ [(⟨v, 0⟩ : S26)]) i = ⟨v, 0⟩ := by
    rw [← hl, rd_T26_nat _ _ (by simp)]; simp
  refine Ev.step (f := fun k => (link_Attach.f k (r + i) l v 0 1 0 (r + i)).bind fun t => if t.2.2 = 0 then (if (t.2.1.length : Int) = i + 1 then (if i < (t.2.1.length : Int) then (if (rd_T26 t.2.1 i).f0 = v then drydocklaw16_LinkFull.l2 k r (i + 1) v0 v1 v2 v3 v4 t.1 t.2.1 else none) else none) else none) else none) (fun k => by
    simp only [drydocklaw16_LinkFull.l2]
    rw [if_pos h4, if_pos (show 0 ≤ i by omega), if_pos (show i < 5 by omega), hv, wrap_s (by omega) (by omega), wrap_s (by omega) (by omega)]) ?_
  refine Ev.bind hA ?_
  have e1 : ((l ++ [(⟨v, 0⟩ : S26)]).length : Int) = i + 1 := by simp; omega
  have e2 : i < ((l ++ [(⟨v, 0⟩ : S26)]).length : Int) := by simp; omega
  simp only [if_true, if_pos e1, if_pos e2, hrd]
  exact h hm2
theorem f_st3 {i z v e : Int} {t : List S26} (h0 : 0 ≤ i) (h4 : i < 4) (hz : z = i + 1) (hv : sel5I v0 v1 v2 v3 v4 i = v) (hr : 0 ≤ r ∧ r ≤ 1000000) (hm : mayH (r + 4 + i) (⟨v, 0⟩ :: t) = true)
    (h : mayH (r + 4 + z) t = true → Ev (fun k => drydocklaw16_LinkFull.l3 k r e z v0 v1 v2 v3 v4 (r + 4 + z) t) true) : Ev (fun k => drydocklaw16_LinkFull.l3 k r e i v0 v1 v2 v3 v4 (r + 4 + i) (⟨v, 0⟩ :: t)) true := by
  subst hz
  obtain ⟨_, _, _, _, hl5⟩ := mayH_iff.1 hm
  have hm2 := may_tail hm (by omega)
  rw [show r + 4 + i + 1 = r + 4 + (i + 1) by omega] at hm2
  refine Ev.step (f := fun k => drydocklaw16_LinkFull.l3 k r e (i + 1) v0 v1 v2 v3 v4 (r + 4 + (i + 1)) t) (fun k => by
    simp only [drydocklaw16_LinkFull.l3]
    rw [if_pos h4, if_pos h0, if_pos (show i < 5 by omega), hv, wrap_s (a := r + 4) (by omega) (by omega), wrap_s (a := r + 4 + i) (by omega) (by omega), wrap_s (a := i + 1) (by omega) (by omega), det_f _ _ _ (by omega), det_head hm (by omega), show r + 4 + i + 1 = r + 4 + (i + 1) by omega]
    rfl) (h hm2)
end
theorem LinkFull : ∀ (a0_0 : Int) (a0_1 : Int) (a0_2 : Int) (a0_3 : Int) (a0_4 : Int) (a1 : Int), (((Lit.int .i64 a0_0).wf = true) ∧ ((Lit.int .i64 a0_1).wf = true) ∧ ((Lit.int .i64 a0_2).wf = true) ∧ ((Lit.int .i64 a0_3).wf = true) ∧ ((Lit.int .i64 a0_4).wf = true)) → ((Lit.int .i64 a1).wf = true) → ∃ k, drydocklaw16_LinkFull.f k a0_0 a0_1 a0_2 a0_3 a0_4 a1 = some true := by
  intro v0 v1 v2 v3 v4 r _ _
  suffices h : Ev (fun k => drydocklaw16_LinkFull.f k v0 v1 v2 v3 v4 r) true from h.rounds
  unfold drydocklaw16_LinkFull.f
  refine Ev.bind awake_ev ?_
  refine f_outer (by omega) (f_end (z := 1) (by omega) (by omega) rfl fun g0 => ?_)
  refine f_outer (by omega) (f_inner (z := 1) (by omega) (by omega) (by omega) rfl fun g10 => f_end (z := 2) (by omega) (by omega) rfl fun g1 => ?_)
  refine f_outer (by omega) (f_inner (z := 1) (by omega) (by omega) (by omega) rfl fun g20 => f_inner (z := 2) (by omega) (by omega) (by omega) rfl fun g21 => f_end (z := 3) (by omega) (by omega) rfl fun g2 => ?_)
  refine f_outer (by omega) (f_inner (z := 1) (by omega) (by omega) (by omega) rfl fun g30 => f_inner (z := 2) (by omega) (by omega) (by omega) rfl fun g31 => f_inner (z := 3) (by omega) (by omega) (by omega) rfl fun g32 => f_end (z := 4) (by omega) (by omega) rfl fun g3 => ?_)
  refine f_outer (by omega) (f_inner (z := 1) (by omega) (by omega) (by omega) rfl fun g40 => f_inner (z := 2) (by omega) (by omega) (by omega) rfl fun g41 => f_inner (z := 3) (by omega) (by omega) (by omega) rfl fun g42 => f_inner (z := 4) (by omega) (by omega) (by omega) rfl fun g43 => f_end (z := 5) (by omega) (by omega) rfl fun g4 => ?_)
  replace g0 : 1 ≤ v0 := g0
  replace g1 : 1 ≤ v1 := g1
  replace g2 : 1 ≤ v2 := g2
  replace g3 : 1 ≤ v3 := g3
  replace g4 : 1 ≤ v4 := g4
  replace g10 : v1 ≠ v0 := g10
  replace g20 : v2 ≠ v0 := g20
  replace g21 : v2 ≠ v1 := g21
  replace g30 : v3 ≠ v0 := g30
  replace g31 : v3 ≠ v1 := g31
  replace g32 : v3 ≠ v2 := g32
  replace g40 : v4 ≠ v0 := g40
  replace g41 : v4 ≠ v1 := g41
  replace g42 : v4 ≠ v2 := g42
  replace g43 : v4 ≠ v3 := g43
  have out : Ev (fun k => drydocklaw16_LinkFull.j2 k r true true v0 v1 v2 v3 v4 r) true := Ev.step (f := fun _ => some true) (fun k => by simp only [drydocklaw16_LinkFull.j2, if_true]) (Ev.now _)
  refine Ev.step (f := fun k => if r < 0 then drydocklaw16_LinkFull.j2 k r true true v0 v1 v2 v3 v4 r else drydocklaw16_LinkFull.j2 k r true (decide (r > 1000000)) v0 v1 v2 v3 v4 r) (fun k => by
    simp only [drydocklaw16_LinkFull.l0, if_true]; rw [if_neg (by omega)]) ?_
  refine ite_ev (fun _ => out) (fun hr0 => ?_)
  by_cases hr1 : r > 1000000
  · rw [decide_eq_true hr1]; exact out
  rw [decide_eq_false hr1]
  have hr : 0 ≤ r ∧ r ≤ 1000000 := ⟨by omega, by omega⟩
  refine Ev.step (f := fun k => drydocklaw16_LinkFull.l2 k r 0 v0 v1 v2 v3 v4 (r + 0) []) (fun k => by simp only [drydocklaw16_LinkFull.j2, Bool.false_eq_true, if_false, Int.add_zero]) ?_
  have hm0 : mayH (r + 0) [] = true := mayH_iff.2 ⟨by simp, by simp, by omega, by omega, by simp⟩
  refine f_st2 (z := 1) (v := v0) rfl (by omega) rfl rfl hr hm0 g0 (by simp) fun hm1 => ?_
  refine f_st2 (z := 2) (v := v1) rfl (by omega) rfl rfl hr hm1 g1 (by simp [g10]) fun hm2 => ?_
  refine f_st2 (z := 3) (v := v2) rfl (by omega) rfl rfl hr hm2 g2 (by simp [g20, g21]) fun hm3 => ?_
  refine f_st2 (z := 4) (v := v3) rfl (by omega) rfl rfl hr hm3 g3 (by simp [g30, g31, g32]) fun hm4 => ?_
  have hA := att_ev (r + 4) ⟨v4, 0⟩ 0 0 (r + 4) (l := [] ++ [(⟨v0, 0⟩ : S26)] ++ [⟨v1, 0⟩] ++ [⟨v2, 0⟩] ++ [⟨v3, 0⟩]) (by simp)
  rw [att_five hm4 rfl (by omega) g4 (by simp [g40, g41, g42, g43])] at hA
  refine Ev.step (f := fun k => (link_Attach.f k (r + 4) ([] ++ [(⟨v0, 0⟩ : S26)] ++ [⟨v1, 0⟩] ++ [⟨v2, 0⟩] ++ [⟨v3, 0⟩]) v4 0 0 0 (r + 4)).bind fun t => drydocklaw16_LinkFull.l3 k r t.2.2 0 v0 v1 v2 v3 v4 (r + 4) ([] ++ [(⟨v0, 0⟩ : S26)] ++ [⟨v1, 0⟩] ++ [⟨v2, 0⟩] ++ [⟨v3, 0⟩])) (fun k => by
    simp only [drydocklaw16_LinkFull.l2]; rw [if_neg (by omega), wrap_s (by omega) (by omega)]) ?_
  refine Ev.bind hA ?_
  refine Ev.congr (f := fun k => drydocklaw16_LinkFull.l3 k r 4 0 v0 v1 v2 v3 v4 (r + 4 + 0) (⟨v0, 0⟩ :: [⟨v1, 0⟩, ⟨v2, 0⟩, ⟨v3, 0⟩])) (fun k => by rw [Int.add_zero]; rfl) ?_
  refine f_st3 (z := 1) (v := v0) (by omega) (by omega) rfl rfl hr (by rw [Int.add_zero]; exact hm4) fun k1 => ?_
  refine f_st3 (z := 2) (v := v1) (by omega) (by omega) rfl rfl hr k1 fun k2 => ?_
  refine f_st3 (z := 3) (v := v2) (by omega) (by omega) rfl rfl hr k2 fun k3 => ?_
  refine f_st3 (z := 4) (v := v3) (by omega) (by omega) rfl rfl hr k3 fun k4 => ?_
  refine Ev.step (f := fun _ => some ((r + 4 + 4) == (r + 8))) (fun k => by
    simp only [drydocklaw16_LinkFull.l3, if_true]; rw [if_neg (by omega), if_pos (by rfl), wrap_s (by omega) (by omega)]) (ev_now ?_)
  rw [beq_iff_eq]; omega

end Go.Proofs.Ytoehingbhmaidaa.Pure
