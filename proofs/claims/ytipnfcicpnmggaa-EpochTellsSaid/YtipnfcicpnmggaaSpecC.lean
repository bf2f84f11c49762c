/- Chapter 17: the document's answers come to the same. -/
import Derived.Test.YtipnfcicpnmggaaPx14
import Derived.Test.YtipnfcicpnmggaaPx16
import Derived.Test.YtipnfcicpnmggaaPx17
import Derived.Test.YtipnfcicpnmggaaPx19
import Derived.Test.YtipnfcicpnmggaaSpecB
namespace Go.Proofs.Ytipnfcicpnmggaa.Spec
open Go.RowKit Go.Proofs.Ytipnfcicpnmggaa.P Go.Proofs.YtipnfcicpnmggaaW.PrintWords Go.Proofs.YtipnfcicpnmggaaW.PrintLast

theorem rown_f (n a b c d : Int) {l : List S43} (hl : l.length ≤ 40) : drydockref17_Own.f n a b c d l = some (n, a, b, c, d, l) := by
  unfold drydockref17_Own.f; rw [if_pos (by simp; omega)]; rfl
theorem has_l {n a b c d : Int} {l : List S43} {x : Int} (hl : l.length ≤ 40) : ∀ (q i : Nat), l.length - i = q → i ≤ l.length → Ev (fun k => drydockref17_has.l0 k x (i : Int) n a b c d l) (decide (x ∈ (l.drop i).map (·.f0))) := by
  intro q
  induction q with
  | zero =>
    intro i hd hi
    rw [show l.drop i = [] from List.drop_eq_nil_of_le (by omega)]
    exact Ev.step (f := fun _ => some false) (fun k => by simp only [drydockref17_has.l0]; rw [if_neg (by omega)]) (ev_now (by simp))
  | succ q ih =>
    intro i hd hi
    have hlt : i < l.length := by omega
    rw [List.drop_eq_getElem_cons hlt]
    refine Ev.step (f := fun k => if l[i].f0 = x then some true else drydockref17_has.l0 k x ((i + 1 : Nat) : Int) n a b c d l) (fun k => by
      simp only [drydockref17_has.l0]; rw [if_pos (by omega), if_pos (by omega), rd_T43_nat l i hlt, wrap_up (by omega)]) ?_
    refine ite_ev (fun h => ev_now (decide_eq_true (by rw [List.map_cons, h]; exact List.mem_cons_self)).symm) (fun h => ?_)
    have := ih (i + 1) (by omega) (by omega)
    rw [show decide (x ∈ (l[i] :: l.drop (i + 1)).map (·.f0)) = decide (x ∈ (l.drop (i + 1)).map (·.f0)) from by
      rw [List.map_cons]; apply decide_eq_decide.2; rw [List.mem_cons]; exact ⟨fun z => z.resolve_left (fun e => h e.symm), .inr⟩]
    exact this
theorem has_ev (n a b c d : Int) {l : List S43} (x : Int) (hl : l.length ≤ 40) : Ev (fun k => drydockref17_has.f k n a b c d l x) (decide (x ∈ l.map (·.f0))) := by
  unfold drydockref17_has.f
  exact has_l hl _ 0 rfl (by omega)
theorem rmay_l {n a b c d : Int} {l : List S43} (hl : l.length ≤ 16) : ∀ (q i : Nat) (last : Int), l.length - i = q → i ≤ l.length → 1 ≤ last → (i = 0 → last = 1) → (∀ h : i - 1 < l.length, 0 < i → last = l[i - 1].f1) → Ev (fun k => drydockref17_May.l1 k (i : Int) n a b c d l) (restB ((l.take i).map (·.f0)) last (l.drop i) (n - 1)) := by
  intro q
  induction q with
  | zero =>
    intro i last hd hi _ _ _
    rw [show l.drop i = [] from List.drop_eq_nil_of_le (by omega)]
    exact Ev.step (f := fun _ => some true) (fun k => by simp only [drydockref17_May.l1]; rw [if_neg (by omega)]) (Ev.now _)
  | succ q ih =>
    intro i last hd hi h1 h2 h3
    have hlt : i < l.length := by omega
    rw [List.drop_eq_getElem_cons hlt]
    have hnext := ih (i + 1) l[i].f1 (by omega) (by omega)
    have htk : ((l.take i).length) ≤ 40 := by rw [List.length_take]; omega
    have key : l[i].f0 ≥ 1 → l[i].f1 ≥ 1 → l[i].f1 < n → last ≤ l[i].f1 → Ev (fun k => (drydockref17_has.f k 0 0 0 0 0 (l.take i) l[i].f0).bind fun t => if t = true then some false else drydockref17_May.l1 k ((i + 1 : Nat) : Int) n a b c d l) (restB ((l.take i).map (·.f0)) last (l[i] :: l.drop (i + 1)) (n - 1)) := by
      intro g1 g2 g3 g4
      refine Ev.bind (has_ev 0 0 0 0 0 l[i].f0 htk) ?_
      unfold restB
      by_cases hm : l[i].f0 ∈ (l.take i).map (·.f0)
      · have hn : decide (l[i].f0 ∉ (l.take i).map (·.f0)) = false := decide_eq_false (fun z => z hm)
        rw [decide_eq_true hm, hn]
        exact ev_now (by simp)
      · have hn : decide (l[i].f0 ∉ (l.take i).map (·.f0)) = true := decide_eq_true hm
        rw [decide_eq_false hm, hn, decide_eq_true (show 1 ≤ l[i].f0 by omega), show inb l[i].f1 last (n - 1) = true from inb_iff.2 ⟨g4, by omega⟩]
        simp only [Bool.false_eq_true, if_false, Bool.true_and]
        have := hnext g2 (by omega) (fun _ _ => by simp)
        rwa [take_map_succ l i hlt] at this
    by_cases hi0 : i = 0
    · subst hi0
      have hl1 := h2 rfl
      refine Ev.step (f := fun k => if l[0].f0 < 1 then some false else if l[0].f1 < 1 then some false else if l[0].f1 ≥ n then some false else (drydockref17_has.f k 0 0 0 0 0 (l.take 0) l[0].f0).bind fun t => if t = true then some false else drydockref17_May.l1 k ((0 + 1 : Nat) : Int) n a b c d l) (fun k => by
        have hr := rd_T43_nat l 0 hlt
        simp only [drydockref17_May.l1]
        rw [if_pos (by omega), if_pos (by omega), hr, if_neg (show ¬ ((0 : Nat) : Int) > 0 by omega), if_pos (show ((0 : Nat) : Int) ≤ (l.length : Int) by omega), wrap_up (by omega)]
        rfl) ?_
      refine ite_ev (fun g => ev_now ?_) (fun g1 => ite_ev (fun g => ev_now ?_) (fun g2 => ite_ev (fun g => ev_now ?_) (fun g3 => key (by omega) (by omega) (by omega) (by omega))))
      · unfold restB; rw [decide_eq_false (by omega)]; rfl
      · unfold restB; rw [show inb l[0].f1 last (n - 1) = false from by simp [inb]; omega]; simp
      · unfold restB; rw [show inb l[0].f1 last (n - 1) = false from by simp [inb]; omega]; simp
    · have hp := h3 (by omega) (by omega)
      refine Ev.step (f := fun k => if l[i].f0 < 1 then some false else if l[i].f1 < 1 then some false else if l[i].f1 ≥ n then some false else if l[i].f1 < last then some false else (drydockref17_has.f k 0 0 0 0 0 (l.take i) l[i].f0).bind fun t => if t = true then some false else drydockref17_May.l1 k ((i + 1 : Nat) : Int) n a b c d l) (fun k => by
        have hr := rd_T43_nat l i hlt
        have hr2 := rd_T43_nat l (i - 1) (by omega)
        have hw : wrap64 ((i : Int) - 1) = ((i - 1 : Nat) : Int) := by rw [wrap_s (by omega) (by omega)]; omega
        simp only [drydockref17_May.l1]
        rw [if_pos (by omega), if_pos (by omega), hr, if_pos (show (i : Int) > 0 by omega), hw, if_pos (show (0 : Int) ≤ ((i - 1 : Nat) : Int) by omega), if_pos (show ((i - 1 : Nat) : Int) < (l.length : Int) by omega), hr2, ← hp, if_pos (show (i : Int) ≤ (l.length : Int) by omega), wrap_up (by omega)]
        rfl) ?_
      refine ite_ev (fun g => ev_now ?_) (fun g1 => ite_ev (fun g => ev_now ?_) (fun g2 => ite_ev (fun g => ev_now ?_) (fun g3 => ite_ev (fun g => ev_now ?_) (fun g4 => key (by omega) (by omega) (by omega) (by omega)))))
      · unfold restB; rw [decide_eq_false (by omega)]; rfl
      · unfold restB; rw [show inb l[i].f1 last (n - 1) = false from by simp [inb]; omega]; simp
      · unfold restB; rw [show inb l[i].f1 last (n - 1) = false from by simp [inb]; omega]; simp
      · unfold restB; rw [show inb l[i].f1 last (n - 1) = false from by simp [inb]; omega]; simp
theorem rmay_step (n a b c d : Int) (l : List S43) (x y : Int) (r : Bool) (h0 : 0 ≤ x) (h4 : x < 4) (hy : y = x + 1) (h : Ev (fun k => drydockref17_May.l0 k y n a b c d l) r) : Ev (fun k => drydockref17_May.l0 k x n a b c d l) (inb (sel4I a b c d x) 0 n && r) := by
  subst hy
  refine Ev.step (f := fun k => if sel4I a b c d x < 0 then some false else if sel4I a b c d x > n then some false else drydockref17_May.l0 k (x + 1) n a b c d l) (fun k => by
    simp only [drydockref17_May.l0]; rw [if_pos h4, if_pos h0, wrap_s (by omega) (by omega)]) ?_
  refine ite_ev (fun h1 => ev_now ?_) (fun h1 => ite_ev (fun h2 => ev_now ?_) (fun h2 => ?_))
  · rw [show inb (sel4I a b c d x) 0 n = false from by simp [inb]; omega]; rfl
  · rw [show inb (sel4I a b c d x) 0 n = false from by simp [inb]; omega]; rfl
  · rw [show inb (sel4I a b c d x) 0 n = true from inb_iff.2 ⟨by omega, by omega⟩]; simpa using h
theorem rmay_ev (n a b c d : Int) (l : List S43) : Ev (fun k => drydockref17_May.f k n a b c d l) (mayE n a b c d l) := by
  have hf : Ev (fun k => drydockref17_May.j0 k true n a b c d l) false := Ev.step (f := fun _ => some false) (fun k => by simp only [drydockref17_May.j0, if_true]) (Ev.now _)
  unfold drydockref17_May.f
  refine ite_ev (fun h => ?_) (fun h1 => ite_ev (fun h => ?_) (fun h1' => ?_))
  · unfold mayE; rw [show inb n 1 1073741824 = false from by simp [inb]; omega]; exact hf
  · unfold mayE; rw [show inb n 1 1073741824 = false from by simp [inb]; omega]; exact hf
  · have hn : inb n 1 1073741824 = true := inb_iff.2 ⟨by omega, by omega⟩
    by_cases h2 : l.length ≤ 16
    · rw [decide_eq_false (show ¬ ((l.length : Int) > 16) by omega)]
      refine Ev.step (f := fun k => drydockref17_May.l0 k 0 n a b c d l) (fun k => by simp only [drydockref17_May.j0, Bool.false_eq_true, if_false]) ?_
      have h4 : Ev (fun k => drydockref17_May.l0 k 4 n a b c d l) (restB [] 1 l (n - 1)) := by
        refine Ev.step (f := fun k => drydockref17_May.l1 k ((0 : Nat) : Int) n a b c d l) (fun k => by simp only [drydockref17_May.l0]; rw [if_neg (by omega)]; rfl) ?_
        exact rmay_l h2 _ 0 1 rfl (by omega) (by omega) (fun _ => rfl) (fun _ z => absurd z (by omega))
      have := rmay_step n a b c d l 0 1 _ (by omega) (by omega) (by omega) (rmay_step n a b c d l 1 2 _ (by omega) (by omega) (by omega) (rmay_step n a b c d l 2 3 _ (by omega) (by omega) (by omega) (rmay_step n a b c d l 3 4 _ (by omega) (by omega) (by omega) h4)))
      unfold mayE
      rw [hn, decide_eq_true h2]
      simpa [sel4I] using this
    · rw [decide_eq_true (show ((l.length : Int) > 16) by omega)]
      unfold mayE
      rw [decide_eq_false h2, hn]
      simpa using hf
theorem may_sel {n a b c d x : Int} {l : List S43} (h : mayE n a b c d l = true) (h0 : 0 ≤ x) (h3 : x ≤ 3) : 0 ≤ sel4I a b c d x := by
  obtain ⟨_, _, h1, h2, h4, h5, _⟩ := mayE_iff.1 h
  obtain rfl | rfl | rfl | rfl : x = 0 ∨ x = 1 ∨ x = 2 ∨ x = 3 := by omega
  · exact h1.1
  · exact h2.1
  · exact h4.1
  · exact h5.1
theorem rEnter_ev (n a b c d : Int) {l : List S43} (x : Int) (hl : l.length ≤ 40) : Ev (fun k => drydockref17_Enter.f k n a b c d l x) (tnS n a b c d l x false n) := by
  have ht : Ev (fun k => drydockref17_Enter.j0 k x true n a b c d l) (0, 0, 0, 0, 0, [], 3) := Ev.step (f := fun _ => some _) (fun k => by simp only [drydockref17_Enter.j0, if_true]) (Ev.now _)
  unfold drydockref17_Enter.f
  refine Ev.bind (rmay_ev n a b c d l) ?_
  unfold tnS
  refine ite_ev (fun hm => ?_) (fun hm => ev_now (by rw [if_neg hm]))
  rw [if_pos hm]
  refine ite_ev (fun h => ?_) (fun h => ?_)
  · rw [if_neg (fun z => by have := inb_iff.1 z; omega)]; exact ht
  · by_cases h3 : x > 3
    · rw [decide_eq_true h3, if_neg (fun z => by have := inb_iff.1 z; omega)]; exact ht
    · rw [decide_eq_false h3, if_pos (inb_iff.2 ⟨by omega, by omega⟩)]
      have hs := may_sel hm (by omega : 0 ≤ x) (by omega)
      refine Ev.step (f := fun _ => if sel4I a b c d x > 0 then some ((0, 0, 0, 0, 0, [], 11) : E7) else some (n, updI 0 x n a, updI 1 x n b, updI 2 x n c, updI 3 x n d, l, 0)) (fun k => by
        simp only [drydockref17_Enter.j0, Bool.false_eq_true, if_false]
        rw [if_pos (by omega), if_pos (by omega), rown_f n a b c d hl]; rfl) ?_
      refine ite_ev (fun g => ev_now (by rw [if_pos (by simp; omega)])) (fun g => ev_now (by rw [if_neg (by simp; omega)]))
theorem rLeave_ev (n a b c d : Int) {l : List S43} (x : Int) (hl : l.length ≤ 40) : Ev (fun k => drydockref17_Leave.f k n a b c d l x) (tnS n a b c d l x true 0) := by
  have ht : Ev (fun k => drydockref17_Leave.j0 k x true n a b c d l) (0, 0, 0, 0, 0, [], 3) := Ev.step (f := fun _ => some _) (fun k => by simp only [drydockref17_Leave.j0, if_true]) (Ev.now _)
  unfold drydockref17_Leave.f
  refine Ev.bind (rmay_ev n a b c d l) ?_
  unfold tnS
  refine ite_ev (fun hm => ?_) (fun hm => ev_now (by rw [if_neg hm]))
  rw [if_pos hm]
  refine ite_ev (fun h => ?_) (fun h => ?_)
  · rw [if_neg (fun z => by have := inb_iff.1 z; omega)]; exact ht
  · by_cases h3 : x > 3
    · rw [decide_eq_true h3, if_neg (fun z => by have := inb_iff.1 z; omega)]; exact ht
    · rw [decide_eq_false h3, if_pos (inb_iff.2 ⟨by omega, by omega⟩)]
      refine Ev.step (f := fun _ => if sel4I a b c d x = 0 then some ((0, 0, 0, 0, 0, [], 11) : E7) else some (n, updI 0 x 0 a, updI 1 x 0 b, updI 2 x 0 c, updI 3 x 0 d, l, 0)) (fun k => by
        simp only [drydockref17_Leave.j0, Bool.false_eq_true, if_false]
        rw [if_pos (by omega), if_pos (by omega), rown_f n a b c d hl]; rfl) ?_
      refine ite_ev (fun g => ev_now (by rw [if_pos (by simp [g])])) (fun g => ev_now (by rw [if_neg (by simp [g])]))
theorem rRetire_ev (n a b c d : Int) {l : List S43} (x : Int) (hl : l.length ≤ 40) : Ev (fun k => drydockref17_Retire.f k n a b c d l x) (rtS n a b c d l x) := by
  have ht : ∀ y, Ev (fun k => drydockref17_Retire.j0 k y true n a b c d l) (0, 0, 0, 0, 0, [], 1) := fun y => Ev.step (f := fun _ => some _) (fun k => by simp only [drydockref17_Retire.j0, if_true]) (Ev.now _)
  unfold drydockref17_Retire.f
  refine Ev.bind (rmay_ev n a b c d l) ?_
  refine ite_ev (fun hm => ?_) (fun hm => ?_)
  · obtain ⟨⟨hn1, hn2⟩, hl16, _⟩ := mayE_iff.1 hm
    refine ite_ev (fun h1 => ?_) (fun h1 => ?_)
    · rw [show rtS n a b c d l x = (0, 0, 0, 0, 0, [], 1) from by unfold rtS; rw [if_neg (fun z => by omega)]]
      exact ht x
    · refine Ev.bind (has_ev n a b c d x hl) ?_
      by_cases h2 : x ∈ l.map (·.f0)
      · rw [decide_eq_true h2, show rtS n a b c d l x = (0, 0, 0, 0, 0, [], 1) from by unfold rtS; rw [if_neg (fun z => z.2.2 h2)]]
        exact ht x
      · rw [decide_eq_false h2]
        have h3 : rtS n a b c d l x = if n = 1073741824 then (0, 0, 0, 0, 0, [], 2) else if l.length = 16 then (0, 0, 0, 0, 0, [], 4) else (n + 1, a, b, c, d, l ++ [⟨x, n⟩], 0) := by
          unfold rtS; rw [if_pos ⟨hm, by omega, h2⟩]
        rw [h3]
        refine Ev.step (f := fun _ => if n ≥ 1073741824 then some ((0, 0, 0, 0, 0, [], 2) : E7) else if (l.length : Int) ≥ 16 then some (0, 0, 0, 0, 0, [], 4) else some (n + 1, a, b, c, d, l ++ [⟨x, n⟩], 0)) (fun k => by
          simp only [drydockref17_Retire.j0, Bool.false_eq_true, if_false, rown_f n a b c d hl, Option.bind_some]
          rw [if_pos (show l.length < 8796093022208 by omega), wrap_s (by omega) (by omega)]) ?_
        refine ite_ev (fun h4 => ev_now (by rw [if_pos (by omega)])) (fun h4 => ?_)
        rw [if_neg (show ¬ n = 1073741824 by omega)]
        refine ite_ev (fun h5 => ev_now (by rw [if_pos (by omega)])) (fun h5 => ev_now (by rw [if_neg (by omega)]))
  · rw [show rtS n a b c d l x = (0, 0, 0, 0, 0, [], 1) from by unfold rtS; rw [if_neg (fun z => hm z.1)]]
    exact ht x
theorem rready_step {n a b c d : Int} {l : List S43} {o : List Int} {i : Nat} (hlt : i < l.length) (x y : Int) (fl : Bool) (r : List Int) (h0 : 0 ≤ x) (h4 : x < 4) (hy : y = x + 1) (h : Ev (fun k => drydockref17_Ready.l1 k o true (i : Int) (fl && okc (sel4I a b c d x) l[i].f1) y n a b c d l) r) : Ev (fun k => drydockref17_Ready.l1 k o true (i : Int) fl x n a b c d l) r := by
  subst hy
  cases fl with
  | false =>
    refine Ev.step (f := fun k => drydockref17_Ready.l1 k o true (i : Int) false (x + 1) n a b c d l) (fun k => by
      simp only [drydockref17_Ready.l1, Bool.false_eq_true, if_false]; rw [if_pos h4, wrap_s (by omega) (by omega)]) (by simpa using h)
  | true =>
    refine Ev.step (f := fun k => if sel4I a b c d x = 0 then drydockref17_Ready.l1 k o true (i : Int) true (x + 1) n a b c d l else drydockref17_Ready.l1 k o true (i : Int) (decide (l[i].f1 < sel4I a b c d x)) (x + 1) n a b c d l) (fun k => by
      simp only [drydockref17_Ready.l1, if_true]
      rw [if_pos h4, if_pos h0, wrap_s (by omega) (by omega), if_pos (show (0 : Int) ≤ (i : Int) by omega), if_pos (show (i : Int) < (l.length : Int) by omega), rd_T43_nat l i hlt]) ?_
    refine ite_ev (fun g => ?_) (fun g => ?_)
    · simpa [okc, g] using h
    · simpa [okc, g] using h
theorem rready_l {n a b c d : Int} {l : List S43} (hl : l.length ≤ 40) : ∀ (q i : Nat) (o : List Int), l.length - i = q → i ≤ l.length → o.length ≤ i → Ev (fun k => drydockref17_Ready.l0 k o true (i : Int) n a b c d l) (o ++ rdL a b c d (l.drop i)) := by
  intro q
  induction q with
  | zero =>
    intro i o hd hi ho
    rw [show l.drop i = [] from List.drop_eq_nil_of_le (by omega)]
    refine Ev.step (f := fun k => drydockref17_Ready.j1 k o true (i : Int) false n a b c d l) (fun k => by simp only [drydockref17_Ready.l0]; rw [if_neg (by omega)]) ?_
    exact Ev.step (f := fun _ => some o) (fun k => by simp only [drydockref17_Ready.j1, Bool.false_eq_true, if_false]) (ev_now (by simp [rdL]))
  | succ q ih =>
    intro i o hd hi ho
    have hlt : i < l.length := by omega
    refine Ev.step (f := fun k => drydockref17_Ready.j1 k o true (i : Int) true n a b c d l) (fun k => by simp only [drydockref17_Ready.l0]; rw [if_pos (by omega)]) ?_
    refine Ev.step (f := fun k => drydockref17_Ready.l1 k o true (i : Int) true 0 n a b c d l) (fun k => by simp only [drydockref17_Ready.j1, if_true]) ?_
    refine rready_step hlt 0 1 true _ (by omega) (by omega) rfl ?_
    refine rready_step hlt 1 2 _ _ (by omega) (by omega) rfl ?_
    refine rready_step hlt 2 3 _ _ (by omega) (by omega) rfl ?_
    refine rready_step hlt 3 4 _ _ (by omega) (by omega) rfl ?_
    rw [List.drop_eq_getElem_cons hlt, rd_cons, show (true && okc (sel4I a b c d 0) l[i].f1 && okc (sel4I a b c d 1) l[i].f1 && okc (sel4I a b c d 2) l[i].f1 && okc (sel4I a b c d 3) l[i].f1) = rdB a b c d l[i].f1 from by
      show (true && okc a l[i].f1 && okc b l[i].f1 && okc c l[i].f1 && okc d l[i].f1) = _
      simp [rdB, Bool.and_assoc]]
    refine Ev.step (f := fun k => if rdB a b c d l[i].f1 = true then drydockref17_Ready.l0 k (o ++ [l[i].f0]) true ((i + 1 : Nat) : Int) n a b c d l else drydockref17_Ready.l0 k o true ((i + 1 : Nat) : Int) n a b c d l) (fun k => by
      simp only [drydockref17_Ready.l1]
      rw [if_neg (show ¬ (4 : Int) < 4 by omega), if_pos (show (0 : Int) ≤ (i : Int) by omega), if_pos (show (i : Int) < (l.length : Int) by omega), if_pos (show o.length < 17592186044416 by omega), wrap_up (by omega), rd_T43_nat l i hlt]) ?_
    refine ite_ev (fun h1 => ?_) (fun h1 => ?_)
    · have := ih (i + 1) (o ++ [l[i].f0]) (by omega) (by omega) (by simp; omega)
      rw [if_pos h1]; simpa using this
    · have := ih (i + 1) o (by omega) (by omega) (by omega)
      rw [if_neg h1]; exact this
theorem rReady_ev (n a b c d : Int) {l : List S43} (hl : l.length ≤ 40) : Ev (fun k => drydockref17_Ready.f k n a b c d l) (clS n a b c d l).2.2.2.2.2.2 := by
  unfold drydockref17_Ready.f
  refine Ev.bind (rmay_ev n a b c d l) ?_
  unfold clS
  by_cases h : mayE n a b c d l = true
  · rw [if_pos h, h]
    exact rready_l hl _ 0 [] rfl (by omega) (by simp)
  · rw [if_neg h]
    simp only [Bool.not_eq_true] at h
    rw [h]
    refine Ev.step (f := fun k => drydockref17_Ready.j1 k [] false 0 false n a b c d l) (fun k => by simp only [drydockref17_Ready.l0]; split <;> rfl) ?_
    exact Ev.step (f := fun _ => some []) (fun k => by simp only [drydockref17_Ready.j1, Bool.false_eq_true, if_false]) (Ev.now _)
theorem rd_nat (l : List Int) (i : Nat) (h : i < l.length) : rd l (i : Int) = l[i] := by
  unfold rd; rw [Int.toNat_natCast, List.getD_eq_getElem?_getD, List.getElem?_eq_getElem h]; rfl
/-- Those whose images are not listed. -/
def cfL (R : List Int) (l : List S43) : List S43 := l.filter (fun x => !decide (x.f0 ∈ R))
theorem cf_cons {R : List Int} {x : S43} {r : List S43} : cfL R (x :: r) = if x.f0 ∈ R then cfL R r else x :: cfL R r := by
  unfold cfL; rw [List.filter_cons]
  by_cases h : x.f0 ∈ R
  · simp [h]
  · simp [h]
section
variable {n a b c d n' a' b' c' d' : Int} {l o : List S43} {R : List Int}
theorem rclear_l1 {i : Nat} (hlt : i < l.length) (hl : l.length ≤ 40) (hR : R.length ≤ 40) (ho : o.length ≤ 40) (r : Int × Int × Int × Int × Int × List S43 × List Int)
    (h : Ev (fun k => drydockref17_Clear.l0 k R ((i + 1 : Nat) : Int) n a b c d l n' a' b' c' d' (if l[i].f0 ∈ R then o else o ++ [l[i]])) r) :
    ∀ (q j : Nat) (fl : Bool), R.length - j = q → j ≤ R.length → (fl = true ∨ l[i].f0 ∈ R.drop j ↔ l[i].f0 ∈ R) → Ev (fun k => drydockref17_Clear.l1 k R (i : Int) fl (j : Int) n a b c d l n' a' b' c' d' o) r := by
  intro q
  induction q with
  | zero =>
    intro j fl hd hj hf
    rw [show R.drop j = [] from List.drop_eq_nil_of_le (by omega)] at hf
    refine Ev.step (f := fun k => drydockref17_Clear.l0 k R ((i + 1 : Nat) : Int) n a b c d l n' a' b' c' d' (if l[i].f0 ∈ R then o else o ++ [l[i]])) (fun k => ?_) h
    simp only [drydockref17_Clear.l1]
    rw [if_neg (by omega), wrap_up (by omega)]
    by_cases hfl : fl = true
    · rw [if_pos hfl, if_pos (hf.1 (.inl hfl))]
    · have hn : ¬ l[i].f0 ∈ R := fun z => (hf.2 z).elim hfl (fun z => by cases z)
      rw [if_neg hfl, if_neg hn, if_pos (by omega), if_pos (by omega), if_pos (by omega), rd_T43_nat l i hlt]
  | succ q ih =>
    intro j fl hd hj hf
    have hjl : j < R.length := by omega
    rw [List.drop_eq_getElem_cons hjl, List.mem_cons] at hf
    cases fl with
    | true =>
      refine Ev.step (f := fun k => drydockref17_Clear.l1 k R (i : Int) true ((j + 1 : Nat) : Int) n a b c d l n' a' b' c' d' o) (fun k => by
        simp only [drydockref17_Clear.l1, if_true]; rw [if_pos (by omega), wrap_up (by omega)]) (ih (j + 1) true (by omega) (by omega) ⟨fun _ => hf.1 (.inl rfl), fun _ => .inl rfl⟩)
    | false =>
      refine Ev.step (f := fun k => drydockref17_Clear.l1 k R (i : Int) (R[j] == l[i].f0) ((j + 1 : Nat) : Int) n a b c d l n' a' b' c' d' o) (fun k => by
        simp only [drydockref17_Clear.l1, Bool.false_eq_true, if_false]; rw [if_pos (by omega), if_pos (by omega), if_pos (by omega), if_pos (by omega), wrap_up (by omega), rd_nat R j hjl, rd_T43_nat l i hlt]) (ih (j + 1) _ (by omega) (by omega) ?_)
      rw [← hf]
      constructor
      · rintro (z | z)
        · exact .inr (.inl (beq_iff_eq.1 z).symm)
        · exact .inr (.inr z)
      · rintro (z | z | z)
        · cases z
        · exact .inl (by rw [z]; simp)
        · exact .inr z
theorem rclear_l (hl : l.length ≤ 40) (hR : R.length ≤ 40) : ∀ (q i : Nat) (o : List S43), l.length - i = q → i ≤ l.length → o.length ≤ i → Ev (fun k => drydockref17_Clear.l0 k R (i : Int) n a b c d l n' a' b' c' d' o) (n', a', b', c', d', o ++ cfL R (l.drop i), R) := by
  intro q
  induction q with
  | zero =>
    intro i o hd hi ho
    rw [show l.drop i = [] from List.drop_eq_nil_of_le (by omega)]
    exact Ev.step (f := fun _ => some (n', a', b', c', d', o, R)) (fun k => by simp only [drydockref17_Clear.l0]; rw [if_neg (by omega)]) (ev_now (by simp [cfL]))
  | succ q ih =>
    intro i o hd hi ho
    have hlt : i < l.length := by omega
    refine Ev.step (f := fun k => drydockref17_Clear.l1 k R (i : Int) false ((0 : Nat) : Int) n a b c d l n' a' b' c' d' o) (fun k => by simp only [drydockref17_Clear.l0]; rw [if_pos (by omega)]; rfl) ?_
    refine rclear_l1 hlt hl hR (by omega) _ ?_ _ 0 false rfl (by omega) (by simp)
    rw [List.drop_eq_getElem_cons hlt, cf_cons]
    by_cases h : l[i].f0 ∈ R
    · simp only [if_pos h]; exact ih (i + 1) o (by omega) (by omega) (by omega)
    · simp only [if_neg h]
      have := ih (i + 1) (o ++ [l[i]]) (by omega) (by omega) (by simp; omega)
      simpa using this
end
theorem cf_nil (l : List S43) : cfL [] l = l := by
  unfold cfL; rw [List.filter_eq_self.2 (by simp)]
theorem cf_rd {a b c d : Int} {l : List S43} (h : (l.map (·.f0)).Nodup) : cfL (rdL a b c d l) l = lfL a b c d l := by
  unfold cfL lfL
  apply List.filter_congr
  intro x hx
  congr 1
  by_cases hr : rdB a b c d x.f1 = true
  · rw [hr, decide_eq_true]
    unfold rdL
    exact List.mem_map_of_mem (List.mem_filter.2 ⟨hx, hr⟩)
  · simp only [Bool.not_eq_true] at hr
    rw [hr, decide_eq_false]
    intro hm
    unfold rdL at hm
    obtain ⟨y, hy, he⟩ := List.mem_map.1 hm
    obtain ⟨hy1, hy2⟩ := List.mem_filter.1 hy
    obtain ⟨p, hp, rfl⟩ := List.getElem_of_mem hx
    obtain ⟨q, hq, rfl⟩ := List.getElem_of_mem hy1
    have : (l.map (·.f0))[q]'(by simpa using hq) = (l.map (·.f0))[p]'(by simpa using hp) := by simpa using he
    have := (List.getElem_inj h).1 this
    subst this
    rw [hr] at hy2; cases hy2
theorem rClear_ev (n a b c d : Int) {l : List S43} (hl : l.length ≤ 40) : Ev (fun k => drydockref17_Clear.f k n a b c d l) (clS n a b c d l) := by
  unfold drydockref17_Clear.f
  refine Ev.bind (rReady_ev n a b c d hl) ?_
  simp only [rown_f n a b c d hl, Option.bind_some]
  unfold clS
  by_cases h : mayE n a b c d l = true
  · rw [if_pos h]
    obtain ⟨_, _, _, _, _, _, hr⟩ := mayE_iff.1 h
    have hlen := rd_len a b c d l
    have := rclear_l (n := n) (a := a) (b := b) (c := c) (d := d) (n' := n) (a' := a) (b' := b) (c' := c) (d' := d) (R := rdL a b c d l) hl (by omega) _ 0 [] rfl (by omega) (by simp)
    rw [List.drop_zero, List.nil_append, cf_rd (rest_nodup hr)] at this
    exact this
  · rw [if_neg h]
    have := rclear_l (n := n) (a := a) (b := b) (c := c) (d := d) (n' := n) (a' := a) (b' := b) (c' := c) (d' := d) (R := []) hl (by simp) _ 0 [] rfl (by omega) (by simp)
    rw [List.drop_zero, List.nil_append, cf_nil] at this
    exact this
end Go.Proofs.Ytipnfcicpnmggaa.Spec
