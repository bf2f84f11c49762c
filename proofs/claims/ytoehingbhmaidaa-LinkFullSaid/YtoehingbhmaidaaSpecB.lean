/- What link.Attach, link.Detach, link.Swap and link.At come to, in plain lists. -/
import Derived.Test.YtoehingbhmaidaaPx8
import Derived.Test.YtoehingbhmaidaaPx16
import Derived.Test.YtoehingbhmaidaaSpec
import Derived.Test.YtoehingbhmaidaaHDetach
namespace Go.Proofs.Ytoehingbhmaidaa.Spec
open Go.RowKit Go.Proofs.Ytoehingbhmaidaa.P Go.Proofs.YtoehingbhmaidaaW.PrintWords Go.Proofs.YtoehingbhmaidaaW.PrintLast

theorem fx_low (l : List S26) (a : Int) : ∀ i : Nat, fx l a i = -1 ∧ a ∉ l.map (·.f0) ∨ ∃ j, ∃ h : j < l.length, fx l a i = ((i + j : Nat) : Int) ∧ l[j].f0 = a ∧ a ∉ (l.take j).map (·.f0) := fun i => by
  by_cases h : a ∈ l.map (·.f0)
  · exact Or.inr (fx_pos h)
  · exact Or.inl ⟨fx_neg h, h⟩
theorem fx_lt {l : List S26} {a : Int} : fx l a 0 < 0 ↔ a ∉ l.map (·.f0) := by
  rcases fx_low l a 0 with ⟨h, hn⟩ | ⟨j, hj, h, e, _⟩
  · rw [h]; exact ⟨fun _ => hn, fun _ => by omega⟩
  · rw [h]
    exact ⟨fun z => by omega, fun z => absurd (by rw [← e]; exact List.mem_map_of_mem (List.getElem_mem hj)) z⟩
theorem fx_is {l : List S26} {a : Int} {j : Nat} (hj : j < l.length) (e : l[j].f0 = a) (hn : a ∉ (l.take j).map (·.f0)) : fx l a 0 = (j : Int) := by
  subst e; exact (fx_at hj).2 hn
theorem fx_idx {l : List S26} {a : Int} (h : 0 ≤ fx l a 0) : ∃ j, ∃ hj : j < l.length, fx l a 0 = (j : Int) ∧ l[j].f0 = a ∧ a ∉ (l.take j).map (·.f0) := by
  rcases fx_low l a 0 with ⟨h', _⟩ | ⟨j, hj, h', e, hn⟩
  · omega
  · exact ⟨j, hj, by rw [h', Nat.zero_add], e, hn⟩
/-- One more, ahead of a place. -/
def ins (l : List S26) (n : Nat) (x : S26) : List S26 := l.take n ++ x :: l.drop n
theorem ins_len (l : List S26) (n : Nat) (x : S26) (h : n ≤ l.length) : (ins l n x).length = l.length + 1 := by simp [ins]; omega
theorem ins_perm (l : List S26) (n : Nat) (x : S26) : (ins l n x).Perm (x :: l) := by
  have := List.perm_middle (l₁ := l.take n) (a := x) (l₂ := l.drop n)
  rwa [List.take_append_drop] at this
theorem ins_at (l : List S26) (n : Nat) (x : S26) (h : n ≤ l.length) : (ins l n x)[n]'(by rw [ins_len l n x h]; omega) = x := by
  simp only [ins]
  rw [List.getElem_append_right (by simp; omega)]
  simp [Nat.min_eq_left h]
theorem ins_erase (l : List S26) (n : Nat) (x : S26) (h : n ≤ l.length) : (ins l n x).eraseIdx n = l := by
  unfold ins
  rw [List.eraseIdx_append_of_length_le (by simp; omega)]
  simp [Nat.min_eq_left h]
theorem ins_fx (l : List S26) (n : Nat) (x : S26) (h : n ≤ l.length) (hn : x.f0 ∉ l.map (·.f0)) : fx (ins l n x) x.f0 0 = (n : Int) :=
  fx_is (by rw [ins_len l n x h]; omega) (by rw [ins_at l n x h]) (fun hm => hn (by
    have : (ins l n x).take n = l.take n := by
      unfold ins
      rw [List.take_append_of_le_length (by simp; omega), List.take_take, Nat.min_self]
    rw [this] at hm
    rw [List.map_take] at hm
    exact List.mem_of_mem_take hm))
theorem ins_fx_before (l : List S26) (x : S26) {a : Int} {j : Nat} (hj : j < l.length) (e : l[j].f0 = a) (hn : a ∉ (l.take j).map (·.f0)) (hx : x.f0 ≠ a) : fx (ins l j x) a 0 = ((j + 1 : Nat) : Int) := by
  have hlen := ins_len l j x (by omega)
  refine fx_is (by omega) ?_ ?_
  · rw [← e]
    simp only [ins]
    rw [List.getElem_append_right (by simp; omega)]
    simp [Nat.min_eq_left (Nat.le_of_lt hj), Nat.add_sub_cancel_left]
  · have : (ins l j x).take (j + 1) = l.take j ++ [x] := by
      unfold ins
      rw [List.take_append]
      simp [Nat.min_eq_left (Nat.le_of_lt hj), List.take_take, Nat.add_sub_cancel_left]
    rw [this]
    simp only [List.map_append, List.mem_append, List.map_cons, List.map_nil, List.mem_singleton, not_or]
    exact ⟨hn, fun z => hx z.symm⟩
theorem ins_fx_after (l : List S26) (x : S26) {a : Int} {j : Nat} (hj : j < l.length) (e : l[j].f0 = a) (hn : a ∉ (l.take j).map (·.f0)) : fx (ins l (j + 1) x) a 0 = (j : Int) := by
  have hlen := ins_len l (j + 1) x (by omega)
  refine fx_is (by omega) ?_ ?_
  · rw [← e]
    simp only [ins]
    rw [List.getElem_append_left (by simp; omega)]
    simp
  · have : (ins l (j + 1) x).take j = l.take j := by
      unfold ins
      rw [List.take_append_of_le_length (by simp; omega), List.take_take, Nat.min_eq_left (by omega)]
    rw [this]; exact hn
theorem mayH_iff {rev : Int} {l : List S26} : mayH rev l = true ↔ (l.map (·.f0)).Nodup ∧ (∀ x ∈ l, oneL x = true) ∧ 0 ≤ rev ∧ rev ≤ 1073741824 ∧ l.length ≤ 4 := by
  unfold mayH
  simp only [Bool.and_eq_true, decide_eq_true_eq, List.all_eq_true]
theorem mayH_ins {rev r : Int} {l : List S26} {x : S26} {n : Nat} (h : mayH rev l = true) (hx : oneL x = true) (hn : x.f0 ∉ l.map (·.f0)) (hl : l.length < 4) (h0 : 0 ≤ r) (h1 : r ≤ 1073741824) : mayH r (ins l n x) = true := by
  obtain ⟨a, b, _, _, _⟩ := mayH_iff.1 h
  refine mayH_iff.2 ⟨?_, ?_, h0, h1, ?_⟩
  · rw [((ins_perm l n x).map (·.f0)).nodup_iff]
    exact List.nodup_cons.2 ⟨hn, a⟩
  · intro y hy
    rcases List.mem_cons.1 ((ins_perm l n x).mem_iff.1 hy) with rfl | h'
    · exact hx
    · exact b y h'
  · rw [(ins_perm l n x).length_eq, List.length_cons]; omega
theorem mayE_zero {rev r : Int} {l : List S26} {x : S26} : mayE rev l x r = 0 ↔ mayH rev l = true ∧ oneL x = true ∧ r = rev ∧ r ≠ 1073741824 := by
  unfold mayE
  by_cases h : mayH rev l = true ∧ oneL x = true
  · rw [if_pos h]
    by_cases h2 : r = rev
    · rw [if_pos h2]
      by_cases h3 : r = 1073741824
      · rw [if_pos h3]; simp [h3]
      · rw [if_neg h3]; simp [h.1, h.2, h2, h2 ▸ h3]
    · rw [if_neg h2]; simp [h2]
  · rw [if_neg h]
    constructor
    · intro z; omega
    · intro z; exact absurd ⟨z.1, z.2.1⟩ h
/-- Where a new one goes. -/
def pos (p : Int) (l : List S26) (b : Int) : Nat := if p = 0 then 0 else if p = 1 then l.length else if p = 2 then (fx l b 0).toNat else (fx l b 0).toNat + 1
def attS (rev : Int) (l : List S26) (x : S26) (p b r : Int) : Int × List S26 × Int :=
  if mayE rev l x r = 0 then
    (if p < 0 ∨ p ≥ 4 ∨ fx l x.f0 0 ≥ 0 then (0, [], 1)
    else if p ≥ 2 ∧ fx l b 0 < 0 then (0, [], 3)
    else if (l.length : Int) = 4 then (0, [], 4)
    else (r + 1, ins l (pos p l b) x, 0))
  else (0, [], mayE rev l x r)
theorem with_f {l : List S26} {n : Nat} (x : S26) (hn : n ≤ l.length) (hl : l.length ≤ 4) : api_Link_25.f l (n : Int) x.f0 x.f1 = some (ins l n x) := by
  unfold api_Link_25.f
  rw [if_pos ⟨by omega, by omega, by omega⟩, Int.toNat_natCast]; rfl
theorem wrap_s {a : Int} (h0 : -1000000000000 ≤ a) (h1 : a ≤ 1000000000000) : wrap64 a = a := by unfold wrap64; omega
theorem att_j1 {l : List S26} (x : S26) {p b rev r : Int} (hm : mayE rev l x r = 0) (hp : p = 2 ∨ p = 3) (hx : ¬ fx l x.f0 0 ≥ 0) : Ev (fun k => link_Attach.j1 k b r (if p = 2 then 0 else 0 + 1) rev l x.f0 x.f1) (attS rev l x p b r) := by
  obtain ⟨hm1, hm2, hm3, hm4⟩ := mayE_zero.1 hm
  obtain ⟨_, _, h0, h1, hl⟩ := mayH_iff.1 hm1
  unfold attS
  rw [if_pos hm, if_neg (by omega : ¬ (p < 0 ∨ p ≥ 4 ∨ fx l x.f0 0 ≥ 0))]
  refine Ev.step (f := fun _ => if fx l b 0 < 0 then some (0, ([] : List S26), 3) else (if (l.length : Int) = 4 then some (0, ([] : List S26), 4) else some (r + 1, ins l (pos p l b) x, 0))) (fun k => ?_) ?_
  · simp only [link_Attach.j1, link_find.f, Option.bind_some]
    by_cases h : fx l b 0 < 0
    · rw [if_pos h, if_pos h]
    · rw [if_neg h, if_neg h]
      by_cases h4 : (l.length : Int) = 4
      · rw [if_pos h4, if_pos h4]
      · rw [if_neg h4, if_neg h4]
        obtain ⟨j, hj, e, _, _⟩ := fx_idx (by omega : 0 ≤ fx l b 0)
        have hw : wrap64 ((if p = 2 then 0 else 0 + 1) + fx l b 0) = ((pos p l b : Nat) : Int) := by
          rw [e]
          unfold pos
          rw [e]
          rcases hp with rfl | rfl
          · simp; exact wrap_s (by omega) (by omega)
          · simp; rw [wrap_s (by omega) (by omega)]; omega
        rw [hw, with_f x (by unfold pos; rw [e]; rcases hp with rfl | rfl <;> simp <;> omega) hl, Option.bind_some, wrap_s (by omega) (by omega)]
  · simp only [show p ≥ 2 from by omega, true_and]
    exact ite_ev2 (fun _ => Ev.now _) (fun _ => ite_ev2 (fun _ => Ev.now _) (fun _ => Ev.now _))
theorem att_j0 {l : List S26} (x : S26) {p b rev r : Int} (hm : mayE rev l x r = 0) : Ev (fun k => link_Attach.j0 k p b r (decide (p < 0 ∨ p ≥ 4 ∨ fx l x.f0 0 ≥ 0)) rev l x.f0 x.f1) (attS rev l x p b r) := by
  obtain ⟨hm1, hm2, hm3, hm4⟩ := mayE_zero.1 hm
  obtain ⟨_, _, h0, h1, hl⟩ := mayH_iff.1 hm1
  by_cases hx : p < 0 ∨ p ≥ 4 ∨ fx l x.f0 0 ≥ 0
  · rw [decide_eq_true hx]
    refine Ev.step (f := fun _ => some (0, ([] : List S26), 1)) (fun k => by simp only [link_Attach.j0, if_true]) (ev_now ?_)
    unfold attS; rw [if_pos hm, if_pos hx]
  · rw [decide_eq_false hx]
    by_cases p1 : p = 1
    · subst p1
      refine Ev.step (f := fun _ => if (l.length : Int) = 4 then some (0, ([] : List S26), 4) else some (r + 1, ins l l.length x, 0)) (fun k => ?_) ?_
      · simp only [link_Attach.j0, Bool.false_eq_true, if_false, if_true]
        by_cases h4 : (l.length : Int) = 4
        · rw [if_pos h4, if_pos h4]
        · rw [if_neg h4, if_neg h4, with_f x (by omega) hl, Option.bind_some, wrap_s (by omega) (by omega)]
      · unfold attS; rw [if_pos hm, if_neg hx, if_neg (by omega : ¬ ((1 : Int) ≥ 2 ∧ fx l b 0 < 0))]
        exact ite_ev2 (fun _ => Ev.now _) (fun _ => Ev.now _)
    · by_cases p3 : p = 3
      · subst p3
        refine Ev.step (f := fun k => link_Attach.j1 k b r (0 + 1) rev l x.f0 x.f1) (fun k => by simp only [link_Attach.j0, Bool.false_eq_true, if_false]; rfl) ?_
        exact att_j1 x hm (Or.inr rfl) (fun z => hx (Or.inr (Or.inr z)))
      · by_cases p2 : p = 2
        · subst p2
          refine Ev.step (f := fun k => link_Attach.j1 k b r 0 rev l x.f0 x.f1) (fun k => by simp only [link_Attach.j0, Bool.false_eq_true, if_false]; rfl) ?_
          exact att_j1 x hm (Or.inl rfl) (fun z => hx (Or.inr (Or.inr z)))
        · obtain rfl : p = 0 := by omega
          refine Ev.step (f := fun _ => if (l.length : Int) = 4 then some (0, ([] : List S26), 4) else some (r + 1, ins l 0 x, 0)) (fun k => ?_) ?_
          · simp only [link_Attach.j0, Bool.false_eq_true, if_false]
            rw [if_neg (by omega), if_neg (by omega), if_neg (by omega)]
            by_cases h4 : (l.length : Int) = 4
            · rw [if_pos h4, if_pos h4]
            · rw [if_neg h4, if_neg h4]
              have := with_f (l := l) (n := 0) x (by omega) hl
              rw [show ((0 : Nat) : Int) = 0 from rfl] at this
              rw [this, Option.bind_some, wrap_s (by omega) (by omega)]
          · unfold attS; rw [if_pos hm, if_neg hx, if_neg (by omega : ¬ ((0 : Int) ≥ 2 ∧ fx l b 0 < 0))]
            exact ite_ev2 (fun _ => Ev.now _) (fun _ => Ev.now _)
theorem att_ev {l : List S26} (rev : Int) (x : S26) (p b r : Int) (hl : l.length ≤ 9223372036854775807) : Ev (fun k => link_Attach.f k rev l x.f0 x.f1 p b r) (attS rev l x p b r) := by
  unfold link_Attach.f
  refine Ev.bind (maye_ev rev x r hl) ?_
  by_cases hm : mayE rev l x r = 0
  · simp only [if_pos hm]
    have h := att_j0 x (p := p) (b := b) hm
    by_cases h1 : p < 0
    · simp only [if_pos h1]; rwa [decide_eq_true (Or.inl h1)] at h
    · simp only [if_neg h1]
      by_cases h2 : p ≥ 4
      · simp only [if_pos h2]; rwa [decide_eq_true (Or.inr (Or.inl h2))] at h
      · simp only [if_neg h2, link_find.f, Option.bind_some]
        have e : decide (p < 0 ∨ p ≥ 4 ∨ fx l x.f0 0 ≥ 0) = decide (fx l x.f0 0 ≥ 0) := decide_eq_decide.2 ⟨fun z => z.elim (absurd · h1) (fun z => z.elim (absurd · h2) id), fun z => Or.inr (Or.inr z)⟩
        rwa [e] at h
  · simp only [if_neg hm]
    unfold attS
    rw [if_neg hm]; exact Ev.now _
def atS (rev : Int) (l : List S26) (a : Int) : Int × Bool := if mayH rev l = true ∧ 0 ≤ fx l a 0 then (fx l a 0, true) else (0, false)
theorem at_ev {l : List S26} (rev a : Int) (hl : l.length ≤ 9223372036854775807) : Ev (fun k => link_At.f k rev l a) (atS rev l a) := by
  unfold link_At.f atS
  simp only [link_find.f, Option.bind_some]
  refine Ev.bind (may_ev rev hl) ?_
  by_cases hm : mayH rev l = true
  · simp only [if_pos hm]
    by_cases h : fx l a 0 < 0
    · simp only [if_pos h]; rw [if_neg (by omega)]; exact Ev.now _
    · simp only [if_neg h]; rw [if_pos ⟨hm, by omega⟩]; exact Ev.now _
  · simp only [if_neg hm]; rw [if_neg (fun z => hm z.1)]; exact Ev.now _
def detS (rev : Int) (l : List S26) (a r : Int) : Int × List S26 × Int :=
  if mayE rev l ⟨1, 0⟩ r = 0 then (if fx l a 0 < 0 then (0, [], 3) else (r + 1, l.eraseIdx (fx l a 0).toNat, 0)) else (0, [], mayE rev l ⟨1, 0⟩ r)
theorem det_f {l : List S26} (rev a r : Int) (hl : l.length ≤ 100000) : link_Detach.f rev l a r = some (detS rev l a r) := by
  unfold link_Detach.f detS
  rw [if_pos hl]
  by_cases hm : mayE rev l ⟨1, 0⟩ r = 0
  · rw [if_pos hm, if_pos hm]
    obtain ⟨hm1, hm2, hm3, hm4⟩ := mayE_zero.1 hm
    obtain ⟨_, _, h0, h1, _⟩ := mayH_iff.1 hm1
    by_cases h : fx l a 0 < 0
    · rw [if_pos h, if_pos h]
    · rw [if_neg h, if_neg h, wrap_s (by omega) (by omega)]
  · rw [if_neg hm, if_neg hm]
def swS (rev : Int) (l : List S26) (a : Int) (x : S26) (r : Int) : Int × List S26 × Int :=
  if mayE rev l x r = 0 then (if fx l a 0 < 0 then (0, [], 3) else if fx l x.f0 0 ≥ 0 ∧ fx l x.f0 0 ≠ fx l a 0 then (0, [], 1) else (r + 1, l.set (fx l a 0).toNat x, 0)) else (0, [], mayE rev l x r)
theorem sw_ev {l : List S26} (rev a : Int) (x : S26) (r : Int) (hl : l.length ≤ 9223372036854775807) : Ev (fun k => link_Swap.f k rev l a x.f0 x.f1 r) (swS rev l a x r) := by
  unfold link_Swap.f swS
  refine Ev.bind (maye_ev rev x r hl) ?_
  by_cases hm : mayE rev l x r = 0
  · obtain ⟨hm1, hm2, hm3, hm4⟩ := mayE_zero.1 hm
    obtain ⟨_, _, h0, h1, h4⟩ := mayH_iff.1 hm1
    have hc : api_Link_29.f l = some l := by unfold api_Link_29.f; rw [if_pos (by omega)]
    simp only [if_pos hm, link_find.f, Option.bind_some, hc]
    by_cases h : fx l a 0 < 0
    · simp only [if_pos h]; exact Ev.now _
    · obtain ⟨j, hj, e, _, _⟩ := fx_idx (by omega : 0 ≤ fx l a 0)
      have hlt : fx l a 0 < (l.length : Int) := by omega
      have hge : 0 ≤ fx l a 0 := by omega
      simp only [if_neg h, if_pos hge, if_pos hlt]
      rw [wrap_s (by omega) (by omega)]
      by_cases h2 : fx l x.f0 0 ≥ 0
      · simp only [if_pos h2]
        by_cases h3 : fx l x.f0 0 = fx l a 0
        · simp only [if_pos h3]; rw [if_neg (fun z => z.2 h3)]; exact Ev.now _
        · simp only [if_neg h3]; rw [if_pos ⟨h2, h3⟩]; exact Ev.now _
      · simp only [if_neg h2]; rw [if_neg (fun z => h2 z.1)]; exact Ev.now _
  · simp only [if_neg hm]; exact Ev.now _
theorem awake_ev : Ev (fun k => drydocklaw16_awake.f k) true := by
  unfold drydocklaw16_awake.f
  refine Ev.bind (att_ev 0 ⟨3, 0⟩ 3 1 0 (by decide)) ?_
  rw [show attS 0 [(⟨1, 0⟩ : S26), ⟨2, 0⟩] ⟨3, 0⟩ 3 1 0 = (1, [⟨1, 0⟩, ⟨3, 0⟩, ⟨2, 0⟩], 0) from rfl]
  refine Ev.bind (at_ev 1 3 (by decide)) ?_
  rw [show atS 1 [(⟨1, 0⟩ : S26), ⟨3, 0⟩, ⟨2, 0⟩] 3 = (1, true) from rfl]
  simp only [if_true]
  rw [show (([(⟨1, 0⟩ : S26), ⟨3, 0⟩, ⟨2, 0⟩] : List S26).length : Int) = 3 from rfl]
  simp only [if_true]
  refine Ev.bind (may_ev 1 (by decide)) ?_
  rw [show mayH 1 [(⟨1, 0⟩ : S26), ⟨3, 0⟩, ⟨2, 0⟩] = true from rfl]
  exact Ev.now _

end Go.Proofs.Ytoehingbhmaidaa.Spec
