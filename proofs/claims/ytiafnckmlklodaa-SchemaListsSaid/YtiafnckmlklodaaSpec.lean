/- What schema.Put comes to, in plain lists. -/
import Derived.Test.YtiafnckmlklodaaPx4
namespace Go.Proofs.Ytiafnckmlklodaa.Spec
open Go.RowKit Go.Proofs.Ytiafnckmlklodaa.P Go.Proofs.YtiafnckmlklodaaW.PrintWords Go.Proofs.YtiafnckmlklodaaW.PrintLast

theorem wrap_up {i : Nat} (h : i < 9223372036854775807) : wrap64 ((i : Int) + 1) = ((i + 1 : Nat) : Int) := by
  unfold wrap64; omega
theorem wrap_s {a : Int} (h0 : -1000000000000 ≤ a) (h1 : a ≤ 1000000000000) : wrap64 a = a := by unfold wrap64; omega
theorem ite_ev {α : Type} {c : Prop} [Decidable c] {g f : Nat → Option α} {r : α} (h : c → Ev g r) (h' : ¬ c → Ev f r) : Ev (fun k => if c then g k else f k) r := by
  by_cases hc : c
  · simpa only [if_pos hc] using h hc
  · simpa only [if_neg hc] using h' hc
theorem ev_now {α : Type} {a r : α} (h : a = r) : Ev (fun _ => some a) r := h ▸ Ev.now a
/-- The bytes of a schema. -/
def encB (s : S34) : List Int := [s.f0 % 256, s.f1 % 256, s.f2 % 256, (s.f3 / 256) % 256, s.f3 % 256]
def putOk (l : List S34) : Prop := l.length ≤ 4 ∧ l.all mayS = true
instance (l : List S34) : Decidable (putOk l) := inferInstanceAs (Decidable (_ ∧ _))
def putS (l : List S34) : List Int × Int := if putOk l then (((l.length : Int) % 256) :: l.flatMap encB, 0) else ([], 1)
theorem encB_len (l : List S34) : (l.flatMap encB).length = 5 * l.length := by
  induction l with
  | nil => rfl
  | cons x t ih => rw [List.flatMap_cons, List.length_append, ih, List.length_cons]; simp [encB]; omega
theorem put_l (l : List S34) (hl : l.length ≤ 100000) : ∀ (d i : Nat) (acc : List Int), l.length - i = d → i ≤ l.length → acc ++ (l.drop i).flatMap encB = ((l.length : Int) % 256) :: l.flatMap encB →
    Ev (fun k => schema_Put.l0 k acc l (l.length : Int) (i : Int)) ((((l.length : Int) % 256) :: l.flatMap encB), 0) := by
  intro d
  induction d with
  | zero =>
    intro i acc hd hi ha
    rw [List.drop_eq_nil_of_le (by omega)] at ha
    refine Ev.step (f := fun _ => some (acc, 0)) (fun k => by simp only [schema_Put.l0]; rw [if_neg (by omega)]) (ev_now ?_)
    rw [← ha]; simp
  | succ d ih =>
    intro i acc hd hi ha
    have hlt : i < l.length := by omega
    have hlen := congrArg List.length ha
    rw [List.length_append, encB_len, List.length_cons, encB_len] at hlen
    refine Ev.step (f := fun k => schema_Put.l0 k (acc ++ encB l[i]) l (l.length : Int) ((i + 1 : Nat) : Int)) (fun k => ?_) (ih (i + 1) (acc ++ encB l[i]) (by omega) (by omega) ?_)
    · simp only [schema_Put.l0, Option.bind_some]
      rw [if_pos (by omega), if_pos (by omega), if_pos (by omega), rd_T34_nat l i hlt, wrap_up (by omega)]
      rw [if_pos (by simp only [List.length_cons, List.length_nil]; omega)]
      rfl
    · rw [← ha, ← List.getElem_cons_drop hlt, List.flatMap_cons, List.append_assoc]
theorem put_ev (l : List S34) : Ev (fun k => schema_Put.f k l) (putS l) := by
  unfold schema_Put.f putS
  by_cases h4 : (l.length : Int) > 4
  · simp only [if_pos h4]
    rw [if_neg (fun z => by have := z.1; omega)]
    exact Ev.step (f := fun _ => some (([] : List Int), 1)) (fun k => by simp only [schema_Put.j0, if_true]) (Ev.now _)
  · simp only [if_neg h4, api_Schema_22.f]
    by_cases hm : l.all mayS = true
    · rw [if_pos ⟨by omega, hm⟩]
      simp only [hm, Bool.not_true]
      simp only [Option.bind_some]
      refine Ev.step (f := fun k => schema_Put.l0 k [((l.length : Int) % 256)] l (l.length : Int) 0) (fun k => by simp only [schema_Put.j0, Bool.false_eq_true, if_false]) ?_
      exact put_l l (by omega) l.length 0 _ (by omega) (by omega) (by simp)
    · rw [if_neg (fun z => hm z.2)]
      simp only [Bool.not_eq_true] at hm
      simp only [hm, Bool.not_false]
      simp only [Option.bind_some]
      exact Ev.step (f := fun _ => some (([] : List Int), 1)) (fun k => by simp only [schema_Put.j0, if_true]) (Ev.now _)

end Go.Proofs.Ytiafnckmlklodaa.Spec
