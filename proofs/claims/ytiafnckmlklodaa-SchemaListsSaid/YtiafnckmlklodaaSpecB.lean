/- What May, Room, Step and awake come to. -/
import Derived.Test.YtiafnckmlklodaaPx6
import Derived.Test.YtiafnckmlklodaaPx15
import Derived.Test.YtiafnckmlklodaaSpec
namespace Go.Proofs.Ytiafnckmlklodaa.Spec
open Go.RowKit Go.Proofs.Ytiafnckmlklodaa.P Go.Proofs.YtiafnckmlklodaaW.PrintWords Go.Proofs.YtiafnckmlklodaaW.PrintLast

theorem may_ev (a b c d : Int) : Ev (fun k => schema_May.f k a b c d) (mayS ⟨a, b, c, d⟩) := Ev.step (f := fun _ => some (mayS ⟨a, b, c, d⟩)) (fun k => may_f k a b c d) (Ev.now _)
theorem mayS_iff {s : S34} : mayS s = true ↔ 0 ≤ s.f0 ∧ s.f0 ≤ 3 ∧ 1 ≤ s.f1 ∧ s.f1 ≤ 16 ∧ 1 ≤ s.f2 ∧ s.f2 ≤ (if s.f0 = 3 then 1 else 4) ∧ 0 ≤ s.f3 ∧ s.f3 ≤ 1000 := by unfold mayS; rw [decide_eq_true_eq]
theorem mayS_b {s : S34} (h : mayS s = true) : 0 ≤ s.f0 ∧ s.f0 ≤ 3 ∧ 1 ≤ s.f1 ∧ s.f1 ≤ 16 ∧ 1 ≤ s.f2 ∧ s.f2 ≤ 4 ∧ 0 ≤ s.f3 ∧ s.f3 ≤ 1000 := by
  have := mayS_iff.1 h
  by_cases h3 : s.f0 = 3
  · rw [if_pos h3] at this; omega
  · rw [if_neg h3] at this; omega
theorem mul_b {a b : Int} (ha : 1 ≤ a ∧ a ≤ 16) (hb : 2 ≤ b ∧ b ≤ 5) : 2 ≤ a * b ∧ a * b ≤ 80 := by
  have h1 : 1 * b ≤ a * b := Int.mul_le_mul_of_nonneg_right ha.1 (by omega)
  have h2 : a * b ≤ 16 * b := Int.mul_le_mul_of_nonneg_right ha.2 (by omega)
  omega
def roomS (s : S34) : Int := if mayS s = true then s.f1 * (s.f2 + 1) else 0
theorem room_ev (a b c d : Int) : Ev (fun k => schema_Room.f k a b c d) (roomS ⟨a, b, c, d⟩) := by
  unfold schema_Room.f roomS
  refine Ev.bind (may_ev a b c d) ?_
  by_cases h : mayS ⟨a, b, c, d⟩ = true
  · simp only [if_pos h]
    have hb := mayS_b h
    simp only at hb
    have := mul_b (a := b) (b := c + 1) ⟨hb.2.2.1, hb.2.2.2.1⟩ ⟨by omega, by omega⟩
    rw [wrap_s (a := c + 1) (by omega) (by omega), wrap_s (by omega) (by omega)]
    exact Ev.now _
  · simp only [if_neg h]; exact Ev.now _
def stepS (s t : S34) : Int := if mayS s = true ∧ mayS t = true then (if s.f0 = t.f0 then (if s.f1 = t.f1 ∧ s.f2 = t.f2 ∧ s.f3 = t.f3 then 0 else if t.f3 = s.f3 + 1 then 1 else 2) else 2) else 2
theorem step_ev (a b c d e f g h : Int) : Ev (fun k => schema_Step.f k a b c d e f g h) (stepS ⟨a, b, c, d⟩ ⟨e, f, g, h⟩) := by
  unfold schema_Step.f stepS
  have out : Ev (fun k => schema_Step.j0 k true a b c d e f g h) 2 := Ev.step (f := fun _ => some 2) (fun k => by simp only [schema_Step.j0, if_true]) (Ev.now _)
  refine Ev.bind (may_ev a b c d) ?_
  cases h1 : mayS ⟨a, b, c, d⟩ with
  | false => simp only [Bool.false_eq_true, if_false, false_and, Bool.not_false]; exact out
  | true =>
    simp only [if_true, true_and]
    refine Ev.bind (may_ev e f g h) ?_
    cases h2 : mayS ⟨e, f, g, h⟩ with
    | false => simp only [Bool.false_eq_true, if_false, Bool.not_false]; exact out
    | true =>
      simp only [if_true, Bool.not_true]
      have hb := mayS_b h1
      simp only at hb
      refine Ev.step (f := fun _ => some (if a = e then (if b = f ∧ c = g ∧ d = h then 0 else if h = d + 1 then 1 else 2) else 2)) (fun k => ?_) (Ev.now _)
      simp only [schema_Step.j0, Bool.false_eq_true, if_false]
      rw [wrap_s (a := d + 1) (by omega) (by omega)]
      by_cases z0 : a = e
      · by_cases z1 : b = f
        · by_cases z2 : c = g
          · by_cases z3 : d = h
            · simp [z0, z1, z2, z3]
            · by_cases z4 : h = d + 1
              · simp only [if_pos z0, if_pos z1, if_pos z2, if_neg z3, if_pos z4, if_neg (fun q : b = f ∧ c = g ∧ d = h => z3 q.2.2)]
              · simp only [if_pos z0, if_pos z1, if_pos z2, if_neg z3, if_neg z4, if_neg (fun q : b = f ∧ c = g ∧ d = h => z3 q.2.2)]
          · by_cases z4 : h = d + 1 <;> simp [z0, z1, z2, z4]
        · by_cases z4 : h = d + 1 <;> simp [z0, z1, z4]
      · simp [z0]
theorem stepS_inv (s t : S34) : (stepS s t = 0 ∧ mayS s = true ∧ mayS t = true ∧ s.f0 = t.f0 ∧ s.f1 = t.f1 ∧ s.f2 = t.f2 ∧ s.f3 = t.f3) ∨ (stepS s t = 1 ∧ mayS s = true ∧ mayS t = true ∧ s.f0 = t.f0 ∧ t.f3 = s.f3 + 1 ∧ True) ∨ stepS s t = 2 := by
  unfold stepS
  by_cases h : mayS s = true ∧ mayS t = true
  · rw [if_pos h]
    by_cases h0 : s.f0 = t.f0
    · rw [if_pos h0]
      by_cases h1 : s.f1 = t.f1 ∧ s.f2 = t.f2 ∧ s.f3 = t.f3
      · rw [if_pos h1]; exact Or.inl ⟨rfl, h.1, h.2, h0, h1⟩
      · rw [if_neg h1]
        by_cases h2 : t.f3 = s.f3 + 1
        · rw [if_pos h2]; exact Or.inr (Or.inl ⟨rfl, h.1, h.2, h0, h2, trivial⟩)
        · rw [if_neg h2]; exact Or.inr (Or.inr rfl)
    · rw [if_neg h0]; exact Or.inr (Or.inr rfl)
  · rw [if_neg h]; exact Or.inr (Or.inr rfl)
theorem stepS_one {s t : S34} (h : stepS s t = 1) : mayS s = true ∧ mayS t = true ∧ s.f0 = t.f0 ∧ t.f3 = s.f3 + 1 := by
  rcases stepS_inv s t with ⟨h', _⟩ | ⟨_, h1, h2, h3, h4, _⟩ | h'
  · rw [h'] at h; exact absurd h (by decide)
  · exact ⟨h1, h2, h3, h4⟩
  · rw [h'] at h; exact absurd h (by decide)
theorem bytes_l (l : List Int) (hl : l.length ≤ 100000) : ∀ (d i : Nat), l.length - i = d → i ≤ l.length → Ev (fun k => drydockref01_Bytes.l0 k l l (i : Int)) true := by
  intro d
  induction d with
  | zero =>
    intro i hd hi
    exact Ev.step (f := fun _ => some true) (fun k => by simp only [drydockref01_Bytes.l0]; rw [if_neg (by omega)]) (Ev.now _)
  | succ d ih =>
    intro i hd hi
    refine Ev.step (f := fun k => drydockref01_Bytes.l0 k l l ((i + 1 : Nat) : Int)) (fun k => ?_) (ih (i + 1) (by omega) (by omega))
    simp only [drydockref01_Bytes.l0]
    rw [if_pos (by omega), if_pos (by omega), if_pos (by omega), if_pos trivial, wrap_up (by omega)]
theorem bytes_ev (l : List Int) (hl : l.length ≤ 100000) : Ev (fun k => drydockref01_Bytes.f k l l) true := by
  unfold drydockref01_Bytes.f
  simp only [if_true]
  exact bytes_l l hl l.length 0 (by omega) (by omega)
theorem awake_ev : Ev (fun k => drydocklaw04_awake.f k) true := by
  unfold drydocklaw04_awake.f
  refine Ev.bind (put_ev [⟨1, 4, 2, 258⟩]) ?_
  rw [show putS [⟨1, 4, 2, 258⟩] = ([1, 1, 4, 2, 1, 2], 0) from rfl]
  rw [show schema_Get.f [1, 1, 4, 2, 1, 2] = some ([⟨1, 4, 2, 258⟩], 0) from rfl]
  simp only [Option.bind_some, if_true]
  refine Ev.bind (bytes_ev [1, 1, 4, 2, 1, 2] (by decide)) ?_
  simp only [if_true]
  rw [show (([⟨1, 4, 2, 258⟩] : List S34).length : Int) = 1 from rfl]
  simp only [if_true]
  rw [show rd_T34 [⟨1, 4, 2, 258⟩] 0 = ⟨1, 4, 2, 258⟩ from rfl]
  simp only [show ((0 : Int) < 1) = True from eq_true (by decide), if_true, beq_self_eq_true, Bool.and_self]
  refine Ev.bind (room_ev 1 4 2 258) ?_
  rw [show roomS ⟨1, 4, 2, 258⟩ = 12 from rfl]
  exact Ev.now _

end Go.Proofs.Ytiafnckmlklodaa.Spec
