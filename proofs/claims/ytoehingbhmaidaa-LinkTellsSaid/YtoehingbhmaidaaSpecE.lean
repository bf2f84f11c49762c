/- A list with one link in another one's place; a list without one. -/
import Derived.Test.YtoehingbhmaidaaSpecD
namespace Go.Proofs.Ytoehingbhmaidaa.Spec
open Go.RowKit Go.Proofs.Ytoehingbhmaidaa.P Go.Proofs.YtoehingbhmaidaaW.PrintWords Go.Proofs.YtoehingbhmaidaaW.PrintLast

theorem nodup_inj {l : List S26} : (l.map (·.f0)).Nodup ↔ ∀ i j (hi : i < l.length) (hj : j < l.length), l[i].f0 = l[j].f0 → i = j := by
  constructor
  · intro hn i j hi hj e
    have h3 : (l.map (·.f0))[i]'(by simpa using hi) = (l.map (·.f0))[j]'(by simpa using hj) := by simpa using e
    exact (List.getElem_inj hn).1 h3
  · intro h
    rw [List.nodup_iff_pairwise_ne, List.pairwise_iff_getElem]
    intro i j hi hj hij e
    simp only [List.length_map] at hi hj
    rw [List.getElem_map, List.getElem_map] at e
    have := h i j hi hj e
    omega
theorem fx_uniq {l : List S26} {a : Int} {j : Nat} (hn : (l.map (·.f0)).Nodup) (hj : j < l.length) (e : l[j].f0 = a) : fx l a 0 = (j : Int) :=
  fx_is hj e (by rw [← e]; exact nodup_at.1 hn j hj)
theorem set_nodup {l : List S26} {x : S26} {j : Nat} (hn : (l.map (·.f0)).Nodup) (hj : j < l.length) (hx : x.f0 ∉ l.map (·.f0) ∨ l[j].f0 = x.f0) : ((l.set j x).map (·.f0)).Nodup := by
  have key : ∀ i (hi : i < l.length), i ≠ j → x.f0 ≠ l[i].f0 := by
    intro i hi hij z
    rcases hx with h | h
    · exact h (by rw [z]; exact List.mem_map_of_mem (f := (·.f0)) (List.getElem_mem hi))
    · exact hij ((nodup_inj.1 hn i j hi hj) (by rw [h, z]))
  refine nodup_inj.2 fun a b ha hb e => ?_
  rw [List.length_set] at ha hb
  rw [List.getElem_set, List.getElem_set] at e
  by_cases h1 : j = a
  · by_cases h2 : j = b
    · omega
    · rw [if_pos h1, if_neg h2] at e
      exact absurd e (key b hb (fun z => h2 z.symm))
  · by_cases h2 : j = b
    · rw [if_neg h1, if_pos h2] at e
      exact absurd e.symm (key a ha (fun z => h1 z.symm))
    · rw [if_neg h1, if_neg h2] at e
      exact nodup_inj.1 hn a b ha hb e
theorem mayH_set {rev r : Int} {l : List S26} {x : S26} {j : Nat} (h : mayH rev l = true) (ho : oneL x = true) (hj : j < l.length) (hx : x.f0 ∉ l.map (·.f0) ∨ l[j].f0 = x.f0) (h0 : 0 ≤ r) (h1 : r ≤ 1073741824) : mayH r (l.set j x) = true := by
  obtain ⟨a, b, _, _, c⟩ := mayH_iff.1 h
  refine mayH_iff.2 ⟨set_nodup a hj hx, fun y hy => ?_, h0, h1, by rw [List.length_set]; exact c⟩
  rcases List.mem_or_eq_of_mem_set hy with h' | rfl
  · exact b y h'
  · exact ho
theorem sw_ok {rev a r : Int} {l : List S26} {x : S26} {j : Nat} (h : mayE rev l x r = 0) (he : fx l a 0 = (j : Int)) (hx : x.f0 ∉ l.map (·.f0) ∨ fx l x.f0 0 = (j : Int)) : swS rev l a x r = (r + 1, l.set j x, 0) := by
  unfold swS
  rw [if_pos h, he, if_neg (by omega), if_neg, Int.toNat_natCast]
  rintro ⟨z1, z2⟩
  rcases hx with hx | hx
  · have := fx_lt.2 hx; omega
  · exact z2 hx
/-- Swapped back. -/
theorem sw_back {rev : Int} {l : List S26} {x : S26} {j : Nat} (h : mayH rev l = true) (ho : oneL x = true) (hj : j < l.length) (hx : x.f0 ∉ l.map (·.f0) ∨ l[j].f0 = x.f0) (h0 : 0 ≤ rev) (h1 : rev < 1073741824) :
    swS (rev + 1) (l.set j x) x.f0 l[j] (rev + 1) = if rev + 1 = 1073741824 then (0, [], 2) else (rev + 2, l, 0) := by
  obtain ⟨hn, hone, _, _, _⟩ := mayH_iff.1 h
  have hM := mayH_set (r := rev + 1) h ho hj hx (by omega) (by omega)
  have e := mayE_same hM (hone _ (List.getElem_mem hj))
  have hj' : j < (l.set j x).length := by rw [List.length_set]; exact hj
  have hnd := set_nodup hn hj hx
  have hfx : fx (l.set j x) x.f0 0 = (j : Int) := fx_uniq hnd hj' (by rw [List.getElem_set_self])
  by_cases hr : rev + 1 = 1073741824
  · rw [if_pos hr] at e; rw [if_pos hr]; exact sw_e e (by decide)
  · rw [if_neg hr] at e
    rw [if_neg hr, sw_ok e hfx, List.set_set, List.set_getElem_self, Int.add_assoc]; rfl
    by_cases hm : l[j].f0 ∈ (l.set j x).map (·.f0)
    · refine Or.inr ?_
      obtain ⟨m, hm1, hm2⟩ := List.getElem_of_mem hm
      simp only [List.length_map, List.length_set] at hm1
      rw [List.getElem_map, List.getElem_set] at hm2
      by_cases hmj : j = m
      · subst hmj; rw [if_pos rfl] at hm2; rw [← hm2]; exact hfx
      · rw [if_neg hmj] at hm2
        exact absurd (nodup_inj.1 hn m j hm1 hj hm2) (fun z => hmj z.symm)
    · exact Or.inl hm
/-- All but one. -/
def no (a : Int) (l : List S26) : List S26 := l.filter fun x => decide (x.f0 ≠ a)
theorem no_not {a : Int} {l : List S26} (h : a ∉ l.map (·.f0)) : no a l = l := by
  unfold no
  rw [List.filter_eq_self]
  intro x hx
  exact decide_eq_true fun z => h (z ▸ List.mem_map_of_mem (f := (·.f0)) hx)
theorem no_app (a : Int) (l m : List S26) : no a (l ++ m) = no a l ++ no a m := List.filter_append ..
theorem no_ins {l : List S26} {n : Nat} {x : S26} (h : x.f0 ∉ l.map (·.f0)) : no x.f0 (ins l n x) = l := by
  unfold ins
  have h1 : no x.f0 (x :: l.drop n) = no x.f0 (l.drop n) := by unfold no; rw [List.filter_cons_of_neg (by simp)]
  rw [no_app, h1, ← no_app, List.take_append_drop, no_not h]
theorem no_erase {l : List S26} {j : Nat} (hn : (l.map (·.f0)).Nodup) (hj : j < l.length) : no l[j].f0 l = l.eraseIdx j := by
  have e : l = l.take j ++ l[j] :: l.drop (j + 1) := by rw [List.getElem_cons_drop, List.take_append_drop]
  have h1 : l[j].f0 ∉ (l.take j).map (·.f0) := nodup_at.1 hn j hj
  have h2 : l[j].f0 ∉ (l.drop (j + 1)).map (·.f0) := by
    intro hm
    obtain ⟨m, hm1, hm2⟩ := List.getElem_of_mem hm
    simp only [List.length_map, List.length_drop] at hm1
    rw [List.getElem_map, List.getElem_drop] at hm2
    have := nodup_inj.1 hn _ j (by omega) hj hm2
    omega
  rw [List.eraseIdx_eq_take_drop_succ]
  generalize ht : l.take j = t at *
  generalize hd : l.drop (j + 1) = d at *
  generalize hx : l[j] = x at *
  rw [e, no_app, no_not h1]
  congr 1
  have h3 : no x.f0 (x :: d) = no x.f0 d := by unfold no; rw [List.filter_cons_of_neg (by simp)]
  rw [h3, no_not h2]
theorem no_step {a : Int} {l : List S26} {i : Nat} (hi : i < l.length) : no a (l.drop i) = (if l[i].f0 = a then [] else [l[i]]) ++ no a (l.drop (i + 1)) := by
  rw [← List.getElem_cons_drop hi]
  unfold no
  rw [List.filter_cons]
  by_cases h : l[i].f0 = a
  · simp [h]
  · simp [h]

end Go.Proofs.Ytoehingbhmaidaa.Spec
